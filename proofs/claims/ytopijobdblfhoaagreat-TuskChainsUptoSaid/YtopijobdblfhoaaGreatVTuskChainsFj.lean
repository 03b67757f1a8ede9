import Derived.Test.YtopijobdblfhoaaGreatProg
import Derived.Test.YtopijobdblfhoaaGreatVTuskChainsWMore
import Derived.Lib.SliceRun
import Derived.Lib.Walk
import Derived.Deep.AppendLies
import Derived.Deep.LoopGhost
import Derived.Lib.Hide
import Derived.BigQuiet
import Derived.Lib.Overlaps
import Derived.Lib.AppendZerosOnto
import Derived.Laws.CopyOwn
import Derived.Laws.OwnMore
import Derived.Shelf.RegionOpenPlain
import Derived.WalkKit
import Derived.Laws.Externs
import Derived.Test.YtopijobdblfhoaaGreatVTuskChainsWShare
import Derived.ScopeJumps
import Derived.Deep.Onto
import Derived.WalkMore
import Derived.Laws.Cover1
set_option linter.unusedVariables false
set_option linter.unusedSimpArgs false
section
/- Trimmed by a program. By an AI agent. -/
namespace Go.Proofs.YtopijobdblfhoaaGreat.Si
open Go.RowKit Go.Lib Go.Proofs.YtopijobdblfhoaaGreatW.PrintWords Go.Proofs.YtopijobdblfhoaaGreatW.PrintLast Go.Proofs.YtopijobdblfhoaaGreatW.PrintMore
def ixL {α : Type} (p : α → Bool) : List α → Nat → Int
 | [], _ => -1
 | x :: r, i => if p x then (i : Int) else ixL p r (i + 1)
theorem Qqh {α : Type} (p : α → Bool) : ∀ (l : List α) (i : Nat), 0 ≤ ixL p l i → ∃ k : Nat, ixL p l i = ((i + k : Nat) : Int) ∧ k < l.length
 | [], i, h => by simp [ixL] at h
 | x :: r, i, h => by
  rw [ixL] at h ⊢
  by_cases hp : p x = true
  ·
   exact ⟨0, by rw [if_pos hp]; simp, by simp⟩
  ·
   rw [if_neg hp] at h ⊢; obtain ⟨k, e, hk⟩ := Qqh p r (i + 1) h; exact ⟨k + 1, by rw [e]; congr 1; omega, by simp; omega⟩
theorem Qj8 {g : Nat} {fn : Func} (hf : Tryz.prog.funcs[g]? = some fn) (hname : (fn.name == "runtime.NumGoroutine") = false) (hb : fn.body.isSome = true) : ∀ args w, (callFunc g args).run Tryz.prog w = .ok (.enter g args) w := fun args w => Qgp hf hname hb args w
theorem Qjz {α : Type} (p : α → Bool) : ∀ (l : List α) (i : Nat), ixL p l (i + 1) = if 0 ≤ ixL p l i then ixL p l i + 1 else ixL p l i
 | [], i => by simp [ixL]
 | x :: r, i => by
  rw [ixL, ixL]
  by_cases h : p x = true
  ·
   rw [if_pos h, if_pos h, if_pos (by omega)]; omega
  ·
   rw [if_neg h, if_neg h, Qjz p r (i + 1)]
theorem add_more (ad : Addr) (k j : Nat) (hj : 0 < j) : (⟨(ad.add k).block, (ad.add k).off + j, none⟩ : Addr) = ad.add (k + j) := by
 unfold Addr.add
 by_cases h : k = 0
 ·
  subst h; rw [if_pos rfl, Nat.zero_add, if_neg (by omega)]
 ·
  rw [if_neg h, if_neg (by omega)]; simp [Nat.add_assoc]
end Go.Proofs.YtopijobdblfhoaaGreat.Si
end
section
/- Trimmed by a program. By an AI agent. -/
namespace Go.Proofs.YtopijobdblfhoaaGreat.Si
open Go.RowKit Go.Lib Go.Proofs.YtopijobdblfhoaaGreatW.PrintWords Go.Proofs.YtopijobdblfhoaaGreatW.PrintLast Go.Proofs.YtopijobdblfhoaaGreatW.PrintMore
structure ER where
 d : ByteArray
 au : Int
 ro : Int
 A3 : Option Addr
 n3 : Nat
 c3 : Nat
 A4 : Option Addr
 n4 : Nat
 c4 : Nat
 ea : Int
 eb : Int
abbrev ER.cs (x : ER) : List Value := [.string x.d, .int .i64 x.au, .int .i64 x.ro, .slice x.A3 x.n3 x.c3, .slice x.A4 x.n4 x.c4, .int .i64 x.ea, .int .i64 x.eb]

def Rowentry (W : World) (A : Option Addr) (l : List ER) : Prop := ∀ (i : Nat) (x : ER), l[i]? = some x → ∃ ad, A = some ad ∧ W.cell? (ad.add (i * 7)) = some (.string x.d) ∧ W.cell? ⟨(ad.add (i * 7)).block, (ad.add (i * 7)).off + 1, none⟩ = some (.int .i64 x.au) ∧ W.cell? ⟨(ad.add (i * 7)).block, (ad.add (i * 7)).off + 2, none⟩ = some (.int .i64 x.ro) ∧ W.cell? ⟨(ad.add (i * 7)).block, (ad.add (i * 7)).off + 3, none⟩ = some (.slice x.A3 x.n3 x.c3) ∧ W.cell? ⟨(ad.add (i * 7)).block, (ad.add (i * 7)).off + 4, none⟩ = some (.slice x.A4 x.n4 x.c4) ∧ W.cell? ⟨(ad.add (i * 7)).block, (ad.add (i * 7)).off + 5, none⟩ = some (.int .i64 x.ea) ∧ W.cell? ⟨(ad.add (i * 7)).block, (ad.add (i * 7)).off + 6, none⟩ = some (.int .i64 x.eb)
set_option maxHeartbeats 4000000 in
set_option maxRecDepth 100000 in
theorem Qiq (A : Option Addr) (c : Nat) (l : List ER) (g : Nat) (pv : Value) (p : ER → Bool) (w : World) (hr : Rowentry w A l) (hlen : l.length ≤ 9223372036854775807)
  (eg : ∀ args w, (callFunc g args).run Tryz.prog w = .ok (.enter g args) w)
  (hp : ∀ (W : World) (x : ER), x ∈ l → Below w.heap.size w W → Calls Tryz.prog g #[.agg #[.string x.d, .int .i64 x.au, .int .i64 x.ro, .slice x.A3 x.n3 x.c3, .slice x.A4 x.n4 x.c4, .int .i64 x.ea, .int .i64 x.eb], pv] W fun e w' => e = .returned (.bool (p x)) ∧ Below W.heap.size W w') :
  Calls Tryz.prog 75 #[.slice A l.length c, .func (.func g) #[] #[pv]] w fun e w' => e = .returned (.int .i64 (ixL p l 0)) ∧ Below w.heap.size w w' := by
 have HR0 := Lib.hid hr; have HL := Lib.hid hlen; have HP := Lib.hid hp; clear hr hlen hp; go_enter Tryz.func75, Tryz.ntmps75; go_wp2
 go_loopg [5, 8] l.length (fun gg _ s8 wr => ∃ kk : Nat, kk ≤ l.length ∧ l.length - kk ≤ gg ∧ s8 = .int .i64 kk ∧ Qan (Below w.heap.size w wr) ∧ Qan (ixL p (l.drop kk) kk = ixL p l 0))
 case atStart => exact ⟨0, Nat.zero_le _, by omega, rfl, ⟨Below.refl _ w⟩, ⟨by rw [List.drop_zero]⟩⟩
 case round =>
  obtain ⟨kk, hkk, hg, rfl, BW, FI⟩ := hrel
  by_cases hlt : kk < l.length
  ·
   have hltz : (kk : Int) < (l.length : Int) := by omega
   have p147 := eq_true (show 0 ≤ (kk : Int) by omega); have q147 := eq_true hltz; have FI' := FI.out; rw [List.drop_eq_getElem_cons hlt, ixL] at FI'; have hgy : l[kk]? = some l[kk] := List.getElem?_eq_getElem hlt; generalize l[kk] = y at FI' hgy; obtain ⟨ad147, e147, hx147_0, hx147_1, hx147_2, hx147_3, hx147_4, hx147_5, hx147_6⟩ := HR0.out kk y hgy; cases e147; replace hx147_0 := (BW.out.cell (World.block_lt_of_cell? w _ hx147_0)).trans hx147_0; replace hx147_1 := (BW.out.cell (World.block_lt_of_cell? w _ hx147_1)).trans hx147_1; replace hx147_2 := (BW.out.cell (World.block_lt_of_cell? w _ hx147_2)).trans hx147_2; replace hx147_3 := (BW.out.cell (World.block_lt_of_cell? w _ hx147_3)).trans hx147_3; replace hx147_4 := (BW.out.cell (World.block_lt_of_cell? w _ hx147_4)).trans hx147_4; replace hx147_5 := (BW.out.cell (World.block_lt_of_cell? w _ hx147_5)).trans hx147_5; replace hx147_6 := (BW.out.cell (World.block_lt_of_cell? w _ hx147_6)).trans hx147_6; have hcall := HP.out wr y (List.mem_of_getElem? hgy) BW.out; have tn : ((kk : Int)).toNat = kk := Int.toNat_natCast kk
   cases hq : p y with
   | true =>
    rw [hq] at hcall; rw [if_pos (hq)] at FI'; have HF := Lib.hid FI'; clear hgy FI FI'
    go_wp2_with fail
    refine hcall.mono ?_; rintro e w' ⟨rfl, hb'⟩; go_wp2; go_ret; exact ⟨congrArg (fun z => Ending.returned (Value.int .i64 z)) HF.out, BW.out.trans (hb'.mono BW.out.size)⟩
   | false =>
    rw [hq] at hcall; rw [if_neg (by rw [hq]; decide)] at FI'; have HF := Lib.hid FI'; clear hgy FI FI'; have hw : wrap64 ((kk : Int) + 1) = ((kk + 1 : Nat) : Int) := by have := HL.out; rw [Go.IntWalk.wrap64_in _ (by omega)]; omega
    go_wp2_with fail
    refine hcall.mono ?_; rintro e w' ⟨rfl, hb'⟩; go_wp2; go_roundg (l.length - (kk + 1))
    case measure => omega
    case rel => exact ⟨kk + 1, by omega, by omega, by first | exact congrArg _ hw | go_num, ⟨BW.out.trans (hb'.mono BW.out.size)⟩, ⟨HF.out⟩⟩
  ·
   have hltz : ¬ (kk : Int) < (l.length : Int) := by omega
   have e : l.drop kk = [] := List.drop_eq_nil_of_le (by omega); have FI' := FI.out; rw [e, ixL] at FI'; have HF := Lib.hid FI'; clear FI FI' e; go_wp2; go_ret; exact ⟨congrArg (fun z => Ending.returned (Value.int .i64 z)) HF.out, BW.out⟩
set_option maxHeartbeats 4000000 in
set_option maxRecDepth 100000 in
theorem Qhd (A : Option Addr) (c : Nat) (l : List ER) (g : Nat) (pv pv2 : Value) (p : ER → Bool) (w : World) (hr : Rowentry w A l) (hlen : l.length ≤ 9223372036854775807)
  (eg : ∀ args w, (callFunc g args).run Tryz.prog w = .ok (.enter g args) w)
  (hp : ∀ (W : World) (x : ER), x ∈ l → Below w.heap.size w W → Calls Tryz.prog g #[.agg #[.string x.d, .int .i64 x.au, .int .i64 x.ro, .slice x.A3 x.n3 x.c3, .slice x.A4 x.n4 x.c4, .int .i64 x.ea, .int .i64 x.eb], pv, pv2] W fun e w' => e = .returned (.bool (p x)) ∧ Below W.heap.size W w') :
  Calls Tryz.prog 75 #[.slice A l.length c, .func (.func g) #[] #[pv, pv2]] w fun e w' => e = .returned (.int .i64 (ixL p l 0)) ∧ Below w.heap.size w w' := by
 have HR0 := Lib.hid hr; have HL := Lib.hid hlen; have HP := Lib.hid hp; clear hr hlen hp; go_enter Tryz.func75, Tryz.ntmps75; go_wp2
 go_loopg [5, 8] l.length (fun gg _ s8 wr => ∃ kk : Nat, kk ≤ l.length ∧ l.length - kk ≤ gg ∧ s8 = .int .i64 kk ∧ Qan (Below w.heap.size w wr) ∧ Qan (ixL p (l.drop kk) kk = ixL p l 0))
 case atStart => exact ⟨0, Nat.zero_le _, by omega, rfl, ⟨Below.refl _ w⟩, ⟨by rw [List.drop_zero]⟩⟩
 case round =>
  obtain ⟨kk, hkk, hg, rfl, BW, FI⟩ := hrel
  by_cases hlt : kk < l.length
  ·
   have hltz : (kk : Int) < (l.length : Int) := by omega
   have p147 := eq_true (show 0 ≤ (kk : Int) by omega); have q147 := eq_true hltz; have FI' := FI.out; rw [List.drop_eq_getElem_cons hlt, ixL] at FI'; have hgy : l[kk]? = some l[kk] := List.getElem?_eq_getElem hlt; generalize l[kk] = y at FI' hgy; obtain ⟨ad147, e147, hx147_0, hx147_1, hx147_2, hx147_3, hx147_4, hx147_5, hx147_6⟩ := HR0.out kk y hgy; cases e147; replace hx147_0 := (BW.out.cell (World.block_lt_of_cell? w _ hx147_0)).trans hx147_0; replace hx147_1 := (BW.out.cell (World.block_lt_of_cell? w _ hx147_1)).trans hx147_1; replace hx147_2 := (BW.out.cell (World.block_lt_of_cell? w _ hx147_2)).trans hx147_2; replace hx147_3 := (BW.out.cell (World.block_lt_of_cell? w _ hx147_3)).trans hx147_3; replace hx147_4 := (BW.out.cell (World.block_lt_of_cell? w _ hx147_4)).trans hx147_4; replace hx147_5 := (BW.out.cell (World.block_lt_of_cell? w _ hx147_5)).trans hx147_5; replace hx147_6 := (BW.out.cell (World.block_lt_of_cell? w _ hx147_6)).trans hx147_6; have hcall := HP.out wr y (List.mem_of_getElem? hgy) BW.out; have tn : ((kk : Int)).toNat = kk := Int.toNat_natCast kk
   cases hq : p y with
   | true =>
    rw [hq] at hcall; rw [if_pos (hq)] at FI'; have HF := Lib.hid FI'; clear hgy FI FI'
    go_wp2_with fail
    refine hcall.mono ?_; rintro e w' ⟨rfl, hb'⟩; go_wp2; go_ret; exact ⟨congrArg (fun z => Ending.returned (Value.int .i64 z)) HF.out, BW.out.trans (hb'.mono BW.out.size)⟩
   | false =>
    rw [hq] at hcall; rw [if_neg (by rw [hq]; decide)] at FI'; have HF := Lib.hid FI'; clear hgy FI FI'; have hw : wrap64 ((kk : Int) + 1) = ((kk + 1 : Nat) : Int) := by have := HL.out; rw [Go.IntWalk.wrap64_in _ (by omega)]; omega
    go_wp2_with fail
    refine hcall.mono ?_; rintro e w' ⟨rfl, hb'⟩; go_wp2; go_roundg (l.length - (kk + 1))
    case measure => omega
    case rel => exact ⟨kk + 1, by omega, by omega, by first | exact congrArg _ hw | go_num, ⟨BW.out.trans (hb'.mono BW.out.size)⟩, ⟨HF.out⟩⟩
  ·
   have hltz : ¬ (kk : Int) < (l.length : Int) := by omega
   have e : l.drop kk = [] := List.drop_eq_nil_of_le (by omega); have FI' := FI.out; rw [e, ixL] at FI'; have HF := Lib.hid FI'; clear FI FI' e; go_wp2; go_ret; exact ⟨congrArg (fun z => Ending.returned (Value.int .i64 z)) HF.out, BW.out⟩

def Qgc (W : World) (A : Option Addr) (l : List ByteArray) : Prop := ∀ (i : Nat) (x : ByteArray), l[i]? = some x → ∃ ad, A = some ad ∧ W.cell? (ad.add i) = some (.string x)
set_option maxHeartbeats 4000000 in
theorem find1_c (x : ER) (s : ByteArray) (b0 : Nat) (w : World) (h0 : w.cell? ⟨b0, 0, none⟩ = some (.string s)) : Calls Tryz.prog 82 #[.agg #[.string x.d, .int .i64 x.au, .int .i64 x.ro, .slice x.A3 x.n3 x.c3, .slice x.A4 x.n4 x.c4, .int .i64 x.ea, .int .i64 x.eb], .pointer (some ⟨b0, 0, none⟩)] w fun e w' => e = .returned (.bool (x.d.toList == s.toList)) ∧ Below w.heap.size w w' := by
 have h0_ : (w.alloc (.cells #[.string x.d, .int .i64 x.au, .int .i64 x.ro, .slice x.A3 x.n3 x.c3, .slice x.A4 x.n4 x.c4, .int .i64 x.ea, .int .i64 x.eb] 32)).cell? ⟨b0, 0, none⟩ = some (.string s) := (World.cell?_alloc_lt _ _ _ (World.block_lt_of_cell? w _ h0)).trans h0; go_enter Tryz.func82, Tryz.ntmps82; go_wp2; go_ret; exact ⟨rfl, (Below.refl _ _).alloc (Nat.le_refl _) _⟩

set_option maxHeartbeats 4000000 in
theorem by1_c (x : ER) (a r : Int) (b0 : Nat) (b1 : Nat) (w : World) (h0 : w.cell? ⟨b0, 0, none⟩ = some (.int .i64 a)) (h1 : w.cell? ⟨b1, 0, none⟩ = some (.int .i64 r)) : Calls Tryz.prog 53 #[.agg #[.string x.d, .int .i64 x.au, .int .i64 x.ro, .slice x.A3 x.n3 x.c3, .slice x.A4 x.n4 x.c4, .int .i64 x.ea, .int .i64 x.eb], .pointer (some ⟨b0, 0, none⟩), .pointer (some ⟨b1, 0, none⟩)] w fun e w' => e = .returned (.bool (x.au == a && x.ro == r)) ∧ Below w.heap.size w w' := by
 have h0_ : (w.alloc (.cells #[.string x.d, .int .i64 x.au, .int .i64 x.ro, .slice x.A3 x.n3 x.c3, .slice x.A4 x.n4 x.c4, .int .i64 x.ea, .int .i64 x.eb] 32)).cell? ⟨b0, 0, none⟩ = some (.int .i64 a) := (World.cell?_alloc_lt _ _ _ (World.block_lt_of_cell? w _ h0)).trans h0; have h1_ : (w.alloc (.cells #[.string x.d, .int .i64 x.au, .int .i64 x.ro, .slice x.A3 x.n3 x.c3, .slice x.A4 x.n4 x.c4, .int .i64 x.ea, .int .i64 x.eb] 32)).cell? ⟨b1, 0, none⟩ = some (.int .i64 r) := (World.cell?_alloc_lt _ _ _ (World.block_lt_of_cell? w _ h1)).trans h1; cases hq : (x.au == a) <;> go_enter Tryz.func53, Tryz.ntmps53 <;> go_wp2 <;> go_ret <;>   exact ⟨rfl, (Below.refl _ _).alloc (Nat.le_refl _) _⟩
end Go.Proofs.YtopijobdblfhoaaGreat.Si
end
section
/- Trimmed by a program. By an AI agent. -/
namespace Go.Proofs.YtopijobdblfhoaaGreat.Si
open Go.RowKit Go.Lib Go.Proofs.YtopijobdblfhoaaGreatW.PrintWords Go.Proofs.YtopijobdblfhoaaGreatW.PrintLast Go.Proofs.YtopijobdblfhoaaGreatW.PrintMore
def ER.v (x : ER) : Value := .agg #[.string x.d, .int .i64 x.au, .int .i64 x.ro, .slice x.A3 x.n3 x.c3, .slice x.A4 x.n4 x.c4, .int .i64 x.ea, .int .i64 x.eb]
def zER : ER := ⟨ByteArray.empty, 0, 0, none, 0, 0, none, 0, 0, 0, 0⟩
def firstE (p : ER → Bool) (rs : List ER) : ER × Bool := if 0 ≤ ixL p rs 0 then (rs.getD (ixL p rs 0).toNat zER, true) else (zER, false)
theorem Qa6 {W W' : World} {A : Option Addr} {l : List ER} (h : Rowentry W A l) (hb : Below W.heap.size W W') : Rowentry W' A l := by
 intro i x hx; obtain ⟨ad, e, h0, h1, h2, h3, h4, h5, h6⟩ := h i x hx
 have c := fun (a : Addr) (v : Value) (q : W.cell? a = some v) => (hb.cell (World.block_lt_of_cell? _ _ q)).trans q
 exact ⟨ad, e, c _ _ h0, c _ _ h1, c _ _ h2, c _ _ h3, c _ _ h4, c _ _ h5, c _ _ h6⟩
set_option maxHeartbeats 8000000 in
set_option maxRecDepth 100000 in
theorem Qfd (A : Option Addr) (c : Nat) (rs : List ER) (n low : Int) (p : ER → Bool) (fv : Value) (w : World) (hr : Rowentry w A rs) (hlen : rs.length ≤ 9223372036854775807)
  (hix : ∀ w1 : World, Below w.heap.size w w1 → Calls Tryz.prog 75 #[.slice A rs.length c, fv] w1 fun e w' => e = .returned (.int .i64 (ixL p rs 0)) ∧ Below w1.heap.size w1 w') :
  Calls Tryz.prog 52 #[.agg #[.int .i64 n, .int .i64 low, .slice A rs.length c], fv] w fun e w' => e = .returned (.tuple #[(firstE p rs).1.v, .bool (firstE p rs).2]) ∧ Below w.heap.size w w' := by
 have HR := Lib.hid hr
 have hz : (¬ 0 ≤ ixL p rs 0 ∧ firstE p rs = (zER, false)) ∨ ∃ k : Nat, ixL p rs 0 = (k : Int) ∧ ∃ x, rs[k]? = some x ∧ firstE p rs = (x, true) := by
  unfold firstE
  by_cases h : 0 ≤ ixL p rs 0
  ·
   obtain ⟨k, hk, hkl⟩ := Qqh p rs 0 h; refine .inr ⟨k, by omega, rs[k], List.getElem?_eq_getElem hkl, ?_⟩; rw [if_pos h, show (ixL p rs 0).toNat = k by omega, List.getD_eq_getElem?_getD, List.getElem?_eq_getElem hkl]; rfl
  ·
   exact .inl ⟨h, if_neg h⟩
 generalize firstE p rs = fe at hz ⊢; generalize ixL p rs 0 = z at hz hix; have HIX := Lib.hid hix; have HZ := Lib.hid hz; clear hix hr hz; go_enter Tryz.func52, Tryz.ntmps52
 go_wp2_with fail
 have B0 : Below w.heap.size w ((w.alloc (.cells #[.int .i64 n, .int .i64 low, .slice A rs.length c] 24)).alloc (.cells #[.string ByteArray.empty, .int .i64 0, .int .i64 0, .slice none 0 0, .slice none 0 0, .int .i64 0, .int .i64 0] 32)) := ((Below.refl _ _).alloc (Nat.le_refl _) _).alloc (by simp) _; have K0 : ((w.alloc (.cells #[.int .i64 n, .int .i64 low, .slice A rs.length c] 24)).alloc (.cells #[.string ByteArray.empty, .int .i64 0, .int .i64 0, .slice none 0 0, .slice none 0 0, .int .i64 0, .int .i64 0] 32)).heap[w.heap.size]? = some (.cells #[.int .i64 n, .int .i64 low, .slice A rs.length c] 24 (0, 0)) := Qah (Qa9 _ _) _
 have K1 : ((w.alloc (.cells #[.int .i64 n, .int .i64 low, .slice A rs.length c] 24)).alloc (.cells #[.string ByteArray.empty, .int .i64 0, .int .i64 0, .slice none 0 0, .slice none 0 0, .int .i64 0, .int .i64 0] 32)).heap[w.heap.size + 1]? = some (.cells #[.string ByteArray.empty, .int .i64 0, .int .i64 0, .slice none 0 0, .slice none 0 0, .int .i64 0, .int .i64 0] 32 (0, 0)) := by
  have := Qa9 (w.alloc (.cells #[.int .i64 n, .int .i64 low, .slice A rs.length c] 24)) (.cells #[.string ByteArray.empty, .int .i64 0, .int .i64 0, .slice none 0 0, .slice none 0 0, .int .i64 0, .int .i64 0] 32)
  simpa using this
 refine (HIX.out _ B0).mono ?_; rintro e w1 ⟨rfl, hb⟩; have B1 := Lib.hid (Qa0 B0 hb); have J0 := Lib.hid (Qam K0 hb); have J1 := Lib.hid (Qam K1 hb); clear hb B0 K0 K1 HIX; have c2 : w1.cell? ⟨w.heap.size, 2, none⟩ = some (.slice A rs.length c) := (Qaa J0.out 2).trans rfl; have d0 : w1.cell? ⟨w.heap.size + 1, 0, none⟩ = some (.string ByteArray.empty) := (Qaa J1.out 0).trans rfl; have d1 : w1.cell? ⟨w.heap.size + 1, 1, none⟩ = some (.int .i64 0) := (Qaa J1.out 1).trans rfl; have d2 : w1.cell? ⟨w.heap.size + 1, 2, none⟩ = some (.int .i64 0) := (Qaa J1.out 2).trans rfl; have d3 : w1.cell? ⟨w.heap.size + 1, 3, none⟩ = some (.slice none 0 0) := (Qaa J1.out 3).trans rfl; have d4 : w1.cell? ⟨w.heap.size + 1, 4, none⟩ = some (.slice none 0 0) := (Qaa J1.out 4).trans rfl; have d5 : w1.cell? ⟨w.heap.size + 1, 5, none⟩ = some (.int .i64 0) := (Qaa J1.out 5).trans rfl; have d6 : w1.cell? ⟨w.heap.size + 1, 6, none⟩ = some (.int .i64 0) := (Qaa J1.out 6).trans rfl; have f0 := Qad J1.out 0; have f1 := Qad J1.out 1; have f2 := Qad J1.out 2; have f3 := Qad J1.out 3; have f4 := Qad J1.out 4; have f5 := Qad J1.out 5; have f6 := Qad J1.out 6
 rcases HZ.out with ⟨hz, rfl⟩ | ⟨k, rfl, x, hx, rfl⟩
 ·
  have hd := eq_true (show z < 0 by omega); have hd2 : decide (z < 0) = true := decide_eq_true (by omega); clear HZ hz HR
  go_wp2_with fail
  have RK := J1.out; replace RK := Qau (cs' := #[.string (⟨#[]⟩ : ByteArray), .int .i64 0, .int .i64 0, .slice none 0 0, .slice none 0 0, .int .i64 0, .int .i64 0]) RK 0 (.string (⟨#[]⟩ : ByteArray)) rfl; replace RK := Qau (cs' := #[.string (⟨#[]⟩ : ByteArray), .int .i64 0, .int .i64 0, .slice none 0 0, .slice none 0 0, .int .i64 0, .int .i64 0]) RK 1 (.int .i64 0) rfl; replace RK := Qau (cs' := #[.string (⟨#[]⟩ : ByteArray), .int .i64 0, .int .i64 0, .slice none 0 0, .slice none 0 0, .int .i64 0, .int .i64 0]) RK 2 (.int .i64 0) rfl; replace RK := Qau (cs' := #[.string (⟨#[]⟩ : ByteArray), .int .i64 0, .int .i64 0, .slice none 0 0, .slice none 0 0, .int .i64 0, .int .i64 0]) RK 3 (.slice none 0 0) rfl; replace RK := Qau (cs' := #[.string (⟨#[]⟩ : ByteArray), .int .i64 0, .int .i64 0, .slice none 0 0, .slice none 0 0, .int .i64 0, .int .i64 0]) RK 4 (.slice none 0 0) rfl; replace RK := Qau (cs' := #[.string (⟨#[]⟩ : ByteArray), .int .i64 0, .int .i64 0, .slice none 0 0, .slice none 0 0, .int .i64 0, .int .i64 0]) RK 5 (.int .i64 0) rfl; replace RK := Qau (cs' := #[.string (⟨#[]⟩ : ByteArray), .int .i64 0, .int .i64 0, .slice none 0 0, .slice none 0 0, .int .i64 0, .int .i64 0]) RK 6 (.int .i64 0) rfl; refine bodyPost_ret (Qak rfl _ _ (w.heap.size + 1) 32 #[.string (⟨#[]⟩ : ByteArray), .int .i64 0, .int .i64 0, .slice none 0 0, .slice none 0 0, .int .i64 0, .int .i64 0] (0, 0) _ rfl RK Tryz.underlying32 rfl (by kernel_rfl)) rfl ?_; refine ⟨rfl, ?_⟩; repeat (refine Qax ?_ (by show w.heap.size ≤ w.heap.size + 1; omega))
  exact B1.out
 ·
  obtain ⟨ad, rfl, x0, x1, x2, x3, x4, x5, x6⟩ := Qa6 HR.out B1.out k x hx; have hkl : k < rs.length := (List.getElem?_eq_some_iff.1 hx).1; have h0 := eq_true (show 0 ≤ (k : Int) by omega); have h1 := eq_true (show (k : Int) < (rs.length : Int) by omega); have h2 := eq_false (show ¬ (k : Int) < 0 by omega); have h3 : decide ((k : Int) < 0) = false := decide_eq_false (by omega); have tn : ((k : Int)).toNat = k := Int.toNat_natCast k; clear HZ hx HR
  go_wp2_with fail
  have RK := J1.out; replace RK := Qau (cs' := #[.string x.d, .int .i64 0, .int .i64 0, .slice none 0 0, .slice none 0 0, .int .i64 0, .int .i64 0]) RK 0 (.string x.d) rfl; replace RK := Qau (cs' := #[.string x.d, .int .i64 x.au, .int .i64 0, .slice none 0 0, .slice none 0 0, .int .i64 0, .int .i64 0]) RK 1 (.int .i64 x.au) rfl; replace RK := Qau (cs' := #[.string x.d, .int .i64 x.au, .int .i64 x.ro, .slice none 0 0, .slice none 0 0, .int .i64 0, .int .i64 0]) RK 2 (.int .i64 x.ro) rfl; replace RK := Qau (cs' := #[.string x.d, .int .i64 x.au, .int .i64 x.ro, .slice x.A3 x.n3 x.c3, .slice none 0 0, .int .i64 0, .int .i64 0]) RK 3 (.slice x.A3 x.n3 x.c3) rfl; replace RK := Qau (cs' := #[.string x.d, .int .i64 x.au, .int .i64 x.ro, .slice x.A3 x.n3 x.c3, .slice x.A4 x.n4 x.c4, .int .i64 0, .int .i64 0]) RK 4 (.slice x.A4 x.n4 x.c4) rfl; replace RK := Qau (cs' := #[.string x.d, .int .i64 x.au, .int .i64 x.ro, .slice x.A3 x.n3 x.c3, .slice x.A4 x.n4 x.c4, .int .i64 x.ea, .int .i64 0]) RK 5 (.int .i64 x.ea) rfl; replace RK := Qau (cs' := #[.string x.d, .int .i64 x.au, .int .i64 x.ro, .slice x.A3 x.n3 x.c3, .slice x.A4 x.n4 x.c4, .int .i64 x.ea, .int .i64 x.eb]) RK 6 (.int .i64 x.eb) rfl; refine bodyPost_ret (Qak rfl _ _ (w.heap.size + 1) 32 #[.string x.d, .int .i64 x.au, .int .i64 x.ro, .slice x.A3 x.n3 x.c3, .slice x.A4 x.n4 x.c4, .int .i64 x.ea, .int .i64 x.eb] (0, 0) _ rfl RK Tryz.underlying32 rfl (by kernel_rfl)) rfl ?_; refine ⟨rfl, ?_⟩; repeat (refine Qax ?_ (by show w.heap.size ≤ w.heap.size + 1; omega))
  exact B1.out
-- FIND
set_option maxHeartbeats 8000000 in
set_option maxRecDepth 100000 in
theorem find_c (A : Option Addr) (c : Nat) (rs : List ER) (n low : Int) (s : ByteArray) (w : World) (hr : Rowentry w A rs) (hlen : rs.length ≤ 9223372036854775807) :
  Calls Tryz.prog 61 #[.agg #[.int .i64 n, .int .i64 low, .slice A rs.length c], .string s] w fun e w' => e = .returned (.tuple #[(firstE (fun x => x.d.toList == s.toList) rs).1.v, .bool (firstE (fun x => x.d.toList == s.toList) rs).2]) ∧ Below w.heap.size w w' := by
 have HF := Lib.hid (fun (w1 : World) (hb : Below w.heap.size w w1) (hs1 : w1.cell? ⟨w.heap.size + 1, 0, none⟩ = some (.string s)) => Qfd A c rs n low (fun x => x.d.toList == s.toList) (.func (.func 82) #[] #[.pointer (some ⟨w.heap.size + 1, 0, none⟩)]) w1 (Qa6 hr hb) hlen (fun w2 hb2 => Qiq A c rs 82 (.pointer (some ⟨w.heap.size + 1, 0, none⟩)) (fun x => x.d.toList == s.toList) w2 (Qa6 (Qa6 hr hb) hb2) hlen (Qj8 Tryz.func82 rfl rfl) (fun W x hx hbW => find1_c x s (w.heap.size + 1) W (((hb2.trans (hbW.mono hb2.size)).cell (World.block_lt_of_cell? _ _ hs1)).trans hs1)))); clear hr; generalize firstE (fun x => x.d.toList == s.toList) rs = fe at HF ⊢; obtain ⟨x, b⟩ := fe; have B0 : Below w.heap.size w (((w.alloc (.cells #[.int .i64 n, .int .i64 low, .slice A rs.length c] 24)).alloc (.cells #[.string s] 9)).alloc (.cells #[.string (⟨#[]⟩ : ByteArray), .int .i64 0, .int .i64 0, .slice none 0 0, .slice none 0 0, .int .i64 0, .int .i64 0] 32)) := ((((Below.refl _ _).alloc (Nat.le_refl _) _).alloc (by simp <;> omega) _).alloc (by simp <;> omega) _)
 have K1 : (((w.alloc (.cells #[.int .i64 n, .int .i64 low, .slice A rs.length c] 24)).alloc (.cells #[.string s] 9)).alloc (.cells #[.string (⟨#[]⟩ : ByteArray), .int .i64 0, .int .i64 0, .slice none 0 0, .slice none 0 0, .int .i64 0, .int .i64 0] 32)).heap[w.heap.size + 1]? = some (.cells #[.string s] 9 (0, 0)) := by
  have h_ := Qa9 (w.alloc (.cells #[.int .i64 n, .int .i64 low, .slice A rs.length c] 24)) (.cells #[.string s] 9); have e_ : (w.alloc (.cells #[.int .i64 n, .int .i64 low, .slice A rs.length c] 24)).heap.size = w.heap.size + 1 := by simp
  rw [e_] at h_; exact Qah (h_ ) _
 have KE : (((w.alloc (.cells #[.int .i64 n, .int .i64 low, .slice A rs.length c] 24)).alloc (.cells #[.string s] 9)).alloc (.cells #[.string (⟨#[]⟩ : ByteArray), .int .i64 0, .int .i64 0, .slice none 0 0, .slice none 0 0, .int .i64 0, .int .i64 0] 32)).heap[w.heap.size + 2]? = some (.cells #[.string (⟨#[]⟩ : ByteArray), .int .i64 0, .int .i64 0, .slice none 0 0, .slice none 0 0, .int .i64 0, .int .i64 0] 32 (0, 0)) := by
  have h_ := Qa9 ((w.alloc (.cells #[.int .i64 n, .int .i64 low, .slice A rs.length c] 24)).alloc (.cells #[.string s] 9)) (.cells #[.string (⟨#[]⟩ : ByteArray), .int .i64 0, .int .i64 0, .slice none 0 0, .slice none 0 0, .int .i64 0, .int .i64 0] 32); have e_ : ((w.alloc (.cells #[.int .i64 n, .int .i64 low, .slice A rs.length c] 24)).alloc (.cells #[.string s] 9)).heap.size = w.heap.size + 2 := by simp
  rw [e_] at h_; exact h_
 go_enter Tryz.func61, Tryz.ntmps61
 go_wp2_with fail
 refine (HF.out _ B0 ((Qaa K1 0).trans rfl)).mono ?_; rintro e w1 ⟨rfl, hb⟩; have B1 := Lib.hid (Qa0 B0 hb); have J1 := Lib.hid (Qam KE hb); clear hb B0 KE K1 HF; have d0 : w1.cell? ⟨w.heap.size + 2, 0, none⟩ = some (.string (⟨#[]⟩ : ByteArray)) := (Qaa J1.out 0).trans rfl; have d1 : w1.cell? ⟨w.heap.size + 2, 1, none⟩ = some (.int .i64 0) := (Qaa J1.out 1).trans rfl; have d2 : w1.cell? ⟨w.heap.size + 2, 2, none⟩ = some (.int .i64 0) := (Qaa J1.out 2).trans rfl; have d3 : w1.cell? ⟨w.heap.size + 2, 3, none⟩ = some (.slice none 0 0) := (Qaa J1.out 3).trans rfl; have d4 : w1.cell? ⟨w.heap.size + 2, 4, none⟩ = some (.slice none 0 0) := (Qaa J1.out 4).trans rfl; have d5 : w1.cell? ⟨w.heap.size + 2, 5, none⟩ = some (.int .i64 0) := (Qaa J1.out 5).trans rfl; have d6 : w1.cell? ⟨w.heap.size + 2, 6, none⟩ = some (.int .i64 0) := (Qaa J1.out 6).trans rfl; have f0 := Qad J1.out 0; have f1 := Qad J1.out 1; have f2 := Qad J1.out 2; have f3 := Qad J1.out 3; have f4 := Qad J1.out 4; have f5 := Qad J1.out 5; have f6 := Qad J1.out 6; unfold ER.v
 go_wp2_with fail
 have RK := J1.out; replace RK := Qau (cs' := #[.string x.d, .int .i64 0, .int .i64 0, .slice none 0 0, .slice none 0 0, .int .i64 0, .int .i64 0]) RK 0 (.string x.d) rfl; replace RK := Qau (cs' := #[.string x.d, .int .i64 x.au, .int .i64 0, .slice none 0 0, .slice none 0 0, .int .i64 0, .int .i64 0]) RK 1 (.int .i64 x.au) rfl; replace RK := Qau (cs' := #[.string x.d, .int .i64 x.au, .int .i64 x.ro, .slice none 0 0, .slice none 0 0, .int .i64 0, .int .i64 0]) RK 2 (.int .i64 x.ro) rfl; replace RK := Qau (cs' := #[.string x.d, .int .i64 x.au, .int .i64 x.ro, .slice x.A3 x.n3 x.c3, .slice none 0 0, .int .i64 0, .int .i64 0]) RK 3 (.slice x.A3 x.n3 x.c3) rfl; replace RK := Qau (cs' := #[.string x.d, .int .i64 x.au, .int .i64 x.ro, .slice x.A3 x.n3 x.c3, .slice x.A4 x.n4 x.c4, .int .i64 0, .int .i64 0]) RK 4 (.slice x.A4 x.n4 x.c4) rfl; replace RK := Qau (cs' := #[.string x.d, .int .i64 x.au, .int .i64 x.ro, .slice x.A3 x.n3 x.c3, .slice x.A4 x.n4 x.c4, .int .i64 x.ea, .int .i64 0]) RK 5 (.int .i64 x.ea) rfl; replace RK := Qau (cs' := #[.string x.d, .int .i64 x.au, .int .i64 x.ro, .slice x.A3 x.n3 x.c3, .slice x.A4 x.n4 x.c4, .int .i64 x.ea, .int .i64 x.eb]) RK 6 (.int .i64 x.eb) rfl; refine bodyPost_ret (Qak rfl _ _ (w.heap.size + 2) 32 #[.string x.d, .int .i64 x.au, .int .i64 x.ro, .slice x.A3 x.n3 x.c3, .slice x.A4 x.n4 x.c4, .int .i64 x.ea, .int .i64 x.eb] (0, 0) _ rfl RK Tryz.underlying32 rfl (by kernel_rfl)) rfl ?_; refine ⟨rfl, ?_⟩; repeat (refine Qax ?_ (by show w.heap.size ≤ w.heap.size + 2; omega))
 exact B1.out
set_option maxHeartbeats 8000000 in
set_option maxRecDepth 100000 in
theorem by_c (A : Option Addr) (c : Nat) (rs : List ER) (n low : Int) (a r : Int) (w : World) (hr : Rowentry w A rs) (hlen : rs.length ≤ 9223372036854775807) :
  Calls Tryz.prog 28 #[.agg #[.int .i64 n, .int .i64 low, .slice A rs.length c], .int .i64 a, .int .i64 r] w fun e w' => e = .returned (.tuple #[(firstE (fun x => x.au == a && x.ro == r) rs).1.v, .bool (firstE (fun x => x.au == a && x.ro == r) rs).2]) ∧ Below w.heap.size w w' := by
 have HF := Lib.hid (fun (w1 : World) (hb : Below w.heap.size w w1) (hs1 : w1.cell? ⟨w.heap.size + 1, 0, none⟩ = some (.int .i64 a)) (hs2 : w1.cell? ⟨w.heap.size + 2, 0, none⟩ = some (.int .i64 r)) => Qfd A c rs n low (fun x => x.au == a && x.ro == r) (.func (.func 53) #[] #[.pointer (some ⟨w.heap.size + 1, 0, none⟩), .pointer (some ⟨w.heap.size + 2, 0, none⟩)]) w1 (Qa6 hr hb) hlen (fun w2 hb2 => Qhd A c rs 53 (.pointer (some ⟨w.heap.size + 1, 0, none⟩)) (.pointer (some ⟨w.heap.size + 2, 0, none⟩)) (fun x => x.au == a && x.ro == r) w2 (Qa6 (Qa6 hr hb) hb2) hlen (Qj8 Tryz.func53 rfl rfl) (fun W x hx hbW => by1_c x a r (w.heap.size + 1) (w.heap.size + 2) W (((hb2.trans (hbW.mono hb2.size)).cell (World.block_lt_of_cell? _ _ hs1)).trans hs1) (((hb2.trans (hbW.mono hb2.size)).cell (World.block_lt_of_cell? _ _ hs2)).trans hs2)))); clear hr; generalize firstE (fun x => x.au == a && x.ro == r) rs = fe at HF ⊢; obtain ⟨x, b⟩ := fe; have B0 : Below w.heap.size w ((((w.alloc (.cells #[.int .i64 n, .int .i64 low, .slice A rs.length c] 24)).alloc (.cells #[.int .i64 a] 3)).alloc (.cells #[.int .i64 r] 3)).alloc (.cells #[.string (⟨#[]⟩ : ByteArray), .int .i64 0, .int .i64 0, .slice none 0 0, .slice none 0 0, .int .i64 0, .int .i64 0] 32)) := (((((Below.refl _ _).alloc (Nat.le_refl _) _).alloc (by simp <;> omega) _).alloc (by simp <;> omega) _).alloc (by simp <;> omega) _)
 have K1 : ((((w.alloc (.cells #[.int .i64 n, .int .i64 low, .slice A rs.length c] 24)).alloc (.cells #[.int .i64 a] 3)).alloc (.cells #[.int .i64 r] 3)).alloc (.cells #[.string (⟨#[]⟩ : ByteArray), .int .i64 0, .int .i64 0, .slice none 0 0, .slice none 0 0, .int .i64 0, .int .i64 0] 32)).heap[w.heap.size + 1]? = some (.cells #[.int .i64 a] 3 (0, 0)) := by
  have h_ := Qa9 (w.alloc (.cells #[.int .i64 n, .int .i64 low, .slice A rs.length c] 24)) (.cells #[.int .i64 a] 3); have e_ : (w.alloc (.cells #[.int .i64 n, .int .i64 low, .slice A rs.length c] 24)).heap.size = w.heap.size + 1 := by simp
  rw [e_] at h_; exact Qah (Qah (h_ ) _ ) _
 have K2 : ((((w.alloc (.cells #[.int .i64 n, .int .i64 low, .slice A rs.length c] 24)).alloc (.cells #[.int .i64 a] 3)).alloc (.cells #[.int .i64 r] 3)).alloc (.cells #[.string (⟨#[]⟩ : ByteArray), .int .i64 0, .int .i64 0, .slice none 0 0, .slice none 0 0, .int .i64 0, .int .i64 0] 32)).heap[w.heap.size + 2]? = some (.cells #[.int .i64 r] 3 (0, 0)) := by
  have h_ := Qa9 ((w.alloc (.cells #[.int .i64 n, .int .i64 low, .slice A rs.length c] 24)).alloc (.cells #[.int .i64 a] 3)) (.cells #[.int .i64 r] 3); have e_ : ((w.alloc (.cells #[.int .i64 n, .int .i64 low, .slice A rs.length c] 24)).alloc (.cells #[.int .i64 a] 3)).heap.size = w.heap.size + 2 := by simp
  rw [e_] at h_; exact Qah (h_ ) _
 have KE : ((((w.alloc (.cells #[.int .i64 n, .int .i64 low, .slice A rs.length c] 24)).alloc (.cells #[.int .i64 a] 3)).alloc (.cells #[.int .i64 r] 3)).alloc (.cells #[.string (⟨#[]⟩ : ByteArray), .int .i64 0, .int .i64 0, .slice none 0 0, .slice none 0 0, .int .i64 0, .int .i64 0] 32)).heap[w.heap.size + 3]? = some (.cells #[.string (⟨#[]⟩ : ByteArray), .int .i64 0, .int .i64 0, .slice none 0 0, .slice none 0 0, .int .i64 0, .int .i64 0] 32 (0, 0)) := by
  have h_ := Qa9 (((w.alloc (.cells #[.int .i64 n, .int .i64 low, .slice A rs.length c] 24)).alloc (.cells #[.int .i64 a] 3)).alloc (.cells #[.int .i64 r] 3)) (.cells #[.string (⟨#[]⟩ : ByteArray), .int .i64 0, .int .i64 0, .slice none 0 0, .slice none 0 0, .int .i64 0, .int .i64 0] 32); have e_ : (((w.alloc (.cells #[.int .i64 n, .int .i64 low, .slice A rs.length c] 24)).alloc (.cells #[.int .i64 a] 3)).alloc (.cells #[.int .i64 r] 3)).heap.size = w.heap.size + 3 := by simp
  rw [e_] at h_; exact h_
 go_enter Tryz.func28, Tryz.ntmps28
 go_wp2_with fail
 refine (HF.out _ B0 ((Qaa K1 0).trans rfl) ((Qaa K2 0).trans rfl)).mono ?_; rintro e w1 ⟨rfl, hb⟩; have B1 := Lib.hid (Qa0 B0 hb); have J1 := Lib.hid (Qam KE hb); clear hb B0 KE K1 K2 HF; have d0 : w1.cell? ⟨w.heap.size + 3, 0, none⟩ = some (.string (⟨#[]⟩ : ByteArray)) := (Qaa J1.out 0).trans rfl; have d1 : w1.cell? ⟨w.heap.size + 3, 1, none⟩ = some (.int .i64 0) := (Qaa J1.out 1).trans rfl; have d2 : w1.cell? ⟨w.heap.size + 3, 2, none⟩ = some (.int .i64 0) := (Qaa J1.out 2).trans rfl; have d3 : w1.cell? ⟨w.heap.size + 3, 3, none⟩ = some (.slice none 0 0) := (Qaa J1.out 3).trans rfl; have d4 : w1.cell? ⟨w.heap.size + 3, 4, none⟩ = some (.slice none 0 0) := (Qaa J1.out 4).trans rfl; have d5 : w1.cell? ⟨w.heap.size + 3, 5, none⟩ = some (.int .i64 0) := (Qaa J1.out 5).trans rfl; have d6 : w1.cell? ⟨w.heap.size + 3, 6, none⟩ = some (.int .i64 0) := (Qaa J1.out 6).trans rfl; have f0 := Qad J1.out 0; have f1 := Qad J1.out 1; have f2 := Qad J1.out 2; have f3 := Qad J1.out 3; have f4 := Qad J1.out 4; have f5 := Qad J1.out 5; have f6 := Qad J1.out 6; unfold ER.v
 go_wp2_with fail
 have RK := J1.out; replace RK := Qau (cs' := #[.string x.d, .int .i64 0, .int .i64 0, .slice none 0 0, .slice none 0 0, .int .i64 0, .int .i64 0]) RK 0 (.string x.d) rfl; replace RK := Qau (cs' := #[.string x.d, .int .i64 x.au, .int .i64 0, .slice none 0 0, .slice none 0 0, .int .i64 0, .int .i64 0]) RK 1 (.int .i64 x.au) rfl; replace RK := Qau (cs' := #[.string x.d, .int .i64 x.au, .int .i64 x.ro, .slice none 0 0, .slice none 0 0, .int .i64 0, .int .i64 0]) RK 2 (.int .i64 x.ro) rfl; replace RK := Qau (cs' := #[.string x.d, .int .i64 x.au, .int .i64 x.ro, .slice x.A3 x.n3 x.c3, .slice none 0 0, .int .i64 0, .int .i64 0]) RK 3 (.slice x.A3 x.n3 x.c3) rfl; replace RK := Qau (cs' := #[.string x.d, .int .i64 x.au, .int .i64 x.ro, .slice x.A3 x.n3 x.c3, .slice x.A4 x.n4 x.c4, .int .i64 0, .int .i64 0]) RK 4 (.slice x.A4 x.n4 x.c4) rfl; replace RK := Qau (cs' := #[.string x.d, .int .i64 x.au, .int .i64 x.ro, .slice x.A3 x.n3 x.c3, .slice x.A4 x.n4 x.c4, .int .i64 x.ea, .int .i64 0]) RK 5 (.int .i64 x.ea) rfl; replace RK := Qau (cs' := #[.string x.d, .int .i64 x.au, .int .i64 x.ro, .slice x.A3 x.n3 x.c3, .slice x.A4 x.n4 x.c4, .int .i64 x.ea, .int .i64 x.eb]) RK 6 (.int .i64 x.eb) rfl; refine bodyPost_ret (Qak rfl _ _ (w.heap.size + 3) 32 #[.string x.d, .int .i64 x.au, .int .i64 x.ro, .slice x.A3 x.n3 x.c3, .slice x.A4 x.n4 x.c4, .int .i64 x.ea, .int .i64 x.eb] (0, 0) _ rfl RK Tryz.underlying32 rfl (by kernel_rfl)) rfl ?_; refine ⟨rfl, ?_⟩; repeat (refine Qax ?_ (by show w.heap.size ≤ w.heap.size + 3; omega))
 exact B1.out
end Go.Proofs.YtopijobdblfhoaaGreat.Si
end
section
/- Trimmed by a program. By an AI agent. -/
namespace Go.Proofs.YtopijobdblfhoaaGreat.Si
open Go.RowKit Go.Lib Go.Proofs.YtopijobdblfhoaaGreatW.PrintWords Go.Proofs.YtopijobdblfhoaaGreatW.PrintLast Go.Proofs.YtopijobdblfhoaaGreatW.PrintMore
theorem firstE_cons (p : ER → Bool) (x : ER) (r : List ER) : firstE p (x :: r) = if p x = true then (x, true) else firstE p r := by
 unfold firstE; rw [ixL]
 by_cases h : p x = true
 ·
  rw [if_pos h, if_pos h]; rfl
 ·
  rw [if_neg h, if_neg h, Qjz]
  by_cases h0 : 0 ≤ ixL p r 0
  ·
   rw [if_pos h0, if_pos (by omega), if_pos h0]; have e : (ixL p r 0 + 1).toNat = (ixL p r 0).toNat + 1 := by omega
   rw [e]; rfl
  ·
   rw [if_neg h0, if_neg h0, if_neg h0]
theorem row_str {W : World} {ok : Nat → Prop} {A : Option Addr} {l : List ByteArray} (h : Kd.F Kd.string W ok A l.length l) : Qgc W A l := by
 intro i x hx; have hC := Kd.F_now h; have hi : i < l.length := (List.getElem?_eq_some_iff.1 hx).1; obtain ⟨ad, hA, hc⟩ := hC.2.2 (by omega); obtain ⟨cs, _, hK, hcs⟩ := hc i x hx; have hK' : cs = [.string x] := hK; subst hK'; have h0 := hcs 0 _ rfl; refine ⟨ad, hA, ?_⟩; have e3 : Kd.string.sz = 1 := rfl; rw [e3, Nat.mul_one, Nat.add_zero] at h0; exact h0
end Go.Proofs.YtopijobdblfhoaaGreat.Si
end
