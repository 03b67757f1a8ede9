-- written by a program of this session (pp.py), out of the kit's print and this session's contracts
import Derived.Test.YtopijobdblfhoaaGreatProg
import Derived.Below
import Derived.Deep.Draws
import Derived.Deep.AppendLies
import Derived.Maps.AppendAt
import Derived.OwnWalk
import Derived.Laws.BytesArg
import Derived.Laws.MakeOwn
import Derived.Laws.OwnMore
import Derived.Deep.OwnRows
import Derived.Tactics
import Derived.Lib.ConvBytes
import Derived.Laws.Slices
import Derived.WalkKit
import Derived.KernelRfl
import Derived.RowKit3
import Derived.Deep.LoopGhost
import Derived.Deep.QuietTactic
import Derived.BigQuiet
import Derived.WideLaws
import Derived.Deep.DeepCutAuto
import Derived.Deep.CutBlock
import Derived.Deep.RegionHeld3
import Derived.Laws.Rows
import Derived.Lib.AppendStr
import Derived.ArgAppend
import Derived.Laws.IdiomCopy
import Derived.OrdersHeld
import Derived.Laws.BitsLemmas
import Derived.RowKit
import Derived.Test.YtopijobdblfhoaaGreatVTuskChainsWWords
import Derived.Test.YtopijobdblfhoaaGreatVTuskChainsWN
import Derived.Test.YtopijobdblfhoaaGreatVTuskChainsPz
import Derived.Test.YtopijobdblfhoaaGreatVTuskChainsPy
import Derived.Test.YtopijobdblfhoaaGreatVTuskChainsGz
import Derived.Test.YtopijobdblfhoaaGreatVTuskChainsSz
import Derived.Test.YtopijobdblfhoaaGreatVTuskChainsDn
import Derived.Test.YtopijobdblfhoaaGreatVTuskChainsWLast
import Derived.Test.YtopijobdblfhoaaGreatVTuskChainsWTab
import Derived.Test.YtopijobdblfhoaaGreatVTuskChainsWApart
import Derived.Test.YtopijobdblfhoaaGreatVTuskChainsWKept
import Derived.Test.YtopijobdblfhoaaGreatVTuskChainsWShare
import Derived.Test.YtopijobdblfhoaaGreatVTuskChainsWAt
import Derived.Test.YtopijobdblfhoaaGreatVTuskChainsWEqStruct
import Derived.Test.YtopijobdblfhoaaGreatVTuskChainsWGuard
import Derived.Test.YtopijobdblfhoaaGreatVTuskChainsWNEv
import Derived.Test.YtopijobdblfhoaaGreatVTuskChainsWMore
import Derived.Test.YtopijobdblfhoaaGreatVTuskChainsPj
set_option linter.unusedVariables false
set_option linter.unusedSimpArgs false
namespace Go.Proofs.YtopijobdblfhoaaGreat.PTuskChains
open Go.RowKit Go.Proofs.YtopijobdblfhoaaGreatW.PrintWords Go.Proofs.YtopijobdblfhoaaGreatW.PrintLast Go.Proofs.YtopijobdblfhoaaGreatW.PrintMore



theorem info4 : (Tryz.prog.info? 4).map (fun i => (i.zero, i.size, i.bytes)) = some (some (.bool false), 1, 1) := by kernel_rfl
theorem Qfm : (Tryz.prog.info? 9).map (fun i => (i.zero, i.size, i.bytes)) = some (some (.string ⟨#[]⟩), 1, 16) := by kernel_rfl
theorem info28 : (Tryz.prog.info? 28).map (fun i => (i.zero, i.size, i.bytes)) = some (some (.agg #[(.int .i64 0), (.int .i64 0)]), 2, 16) := by kernel_rfl
theorem Qc5 : (Tryz.prog.info? 32).map (fun i => (i.zero, i.size, i.bytes)) = some (some (.agg #[(.string ⟨#[]⟩), (.int .i64 0), (.int .i64 0), (.slice none 0 0), (.slice none 0 0), (.int .i64 0), (.int .i64 0)]), 7, 96) := by kernel_rfl
theorem Qpz : (Tryz.prog.info? 76).map (fun i => (i.zero, i.size, i.bytes)) = some (some (.agg #[(.int .i64 0), (.int .i64 0), (.int .i64 0)]), 3, 24) := by kernel_rfl
-- the values' own types
structure Qaz where
 f0 : Int
 f1 : Int
 f2 : (List ByteArray)
def z107 : Qaz := ⟨(0 : Int), (0 : Int), ([] : List ByteArray)⟩
def Qbm : Kd Qaz := Kd.iso (Kd.pair (Kd.int .i64) (Kd.pair (Kd.int .i64) (Kd.slice 9 Kd.string))) (fun x : Qaz => (x.f0, x.f1, x.f2))
theorem Qm2 : Kd.Heap Qbm := Kd.heap_iso _ (Kd.heap_pair (Kd.heap_int .i64) (Kd.heap_pair (Kd.heap_int .i64) (Kd.heap_slice 9 Kd.heap_string)))
theorem Qmw {w : World} {x : Qaz} {cs : List Value} (h : Qbm.K w x cs) : ∃ A2 c2, cs = [.int .i64 x.f0, .int .i64 x.f1, .slice A2 x.f2.length c2] ∧ x.f2.length ≤ c2 ∧ Kd.string.C w A2 x.f2.length x.f2 := by
 obtain ⟨_, _, rfl, rfl, ⟨_, _, rfl, rfl, ⟨A2, c2, rfl, l2, g2⟩⟩⟩ := h; exact ⟨A2, c2, rfl, l2, g2⟩
def Qaq (xs : List Qaz) (i : Int) : Qaz := xs.getD i.toNat z107
theorem Qha {w : World} {A : Option Addr} {n : Nat} {xs : List Qaz} (h : Kd.C Qbm w A n xs) (i : Int) (h0 : 0 ≤ i) (h1 : i < n) : ∃ ad A2 c2, A = some ad ∧ w.cell? (ad.add (i.toNat * 3)) = some (.int .i64 (Qaq xs i).f0) ∧ w.cell? ⟨(ad.add (i.toNat * 3)).block, (ad.add (i.toNat * 3)).off + 1, none⟩ = some (.int .i64 (Qaq xs i).f1) ∧ w.cell? ⟨(ad.add (i.toNat * 3)).block, (ad.add (i.toNat * 3)).off + 2, none⟩ = some (.slice A2 (Qaq xs i).f2.length c2) ∧ (Qaq xs i).f2.length ≤ c2 ∧ Kd.string.C w A2 (Qaq xs i).f2.length (Qaq xs i).f2 := by
 obtain ⟨ad, c, e, _, hK, hc0⟩ := Kd.C_get h z107 i h0 h1; have hc : ∀ j u, c[j]? = some u → w.cell? (ad.add (i.toNat * 3 + j)) = some u := hc0; obtain ⟨A2, c2, rfl, l2, g2⟩ := Qmw hK; exact ⟨ad, A2, c2, e, hc 0 _ rfl, by rw [← Qaf _ _ 1 (by omega)]; exact hc 1 _ rfl, by rw [← Qaf _ _ 2 (by omega)]; exact hc 2 _ rfl, l2, g2⟩

structure S28 where
 f0 : Int
 f1 : Int
def z28 : S28 := ⟨(0 : Int), (0 : Int)⟩
def k28 : Kd S28 := Kd.iso (Kd.pair (Kd.int .i64) (Kd.int .i64)) (fun x : S28 => (x.f0, x.f1))
theorem Qo7 : Kd.Heap k28 := Kd.heap_iso _ (Kd.heap_pair (Kd.heap_int .i64) (Kd.heap_int .i64))
theorem Qgx {w : World} {x : S28} {cs : List Value} (h : k28.K w x cs) : cs = [.int .i64 x.f0, .int .i64 x.f1] := by
 obtain ⟨_, _, rfl, rfl, rfl⟩ := h; exact rfl
theorem k28_mk (w : World) (x : S28)  : k28.K w x [.int .i64 x.f0, .int .i64 x.f1] := ⟨[.int .i64 x.f0], [.int .i64 x.f1], rfl, rfl, rfl⟩
theorem Qmq (w : World) (base : Nat) (ok : Nat → Prop) (x : S28)  : k28.M w base ok x [.int .i64 x.f0, .int .i64 x.f1] := ⟨[.int .i64 x.f0], [.int .i64 x.f1], rfl, rfl, rfl⟩
def Qb8 (xs : List S28) (i : Int) : S28 := xs.getD i.toNat z28
theorem Qp9 {w : World} {A : Option Addr} {n : Nat} {xs : List S28} (h : Kd.C k28 w A n xs) (i : Int) (h0 : 0 ≤ i) (h1 : i < n) : ∃ ad , A = some ad ∧ w.cell? (ad.add (i.toNat * 2)) = some (.int .i64 (Qb8 xs i).f0) ∧ w.cell? ⟨(ad.add (i.toNat * 2)).block, (ad.add (i.toNat * 2)).off + 1, none⟩ = some (.int .i64 (Qb8 xs i).f1) := by
 obtain ⟨ad, c, e, _, hK, hc0⟩ := Kd.C_get h z28 i h0 h1; have hc : ∀ j u, c[j]? = some u → w.cell? (ad.add (i.toNat * 2 + j)) = some u := hc0; obtain rfl := Qgx hK; exact ⟨ad, e, hc 0 _ rfl, by rw [← Qaf _ _ 1 (by omega)]; exact hc 1 _ rfl⟩

structure S30 where
 f0 : Int
 f1 : Int
 f2 : (List Qaz)
 f3 : (List ByteArray)
 f4 : S28
def z30 : S30 := ⟨(0 : Int), (0 : Int), ([] : List Qaz), ([] : List ByteArray), z28⟩
def k30 : Kd S30 := Kd.iso (Kd.pair (Kd.int .i64) (Kd.pair (Kd.int .i64) (Kd.pair (Kd.slice 107 Qbm) (Kd.pair (Kd.slice 9 Kd.string) k28)))) (fun x : S30 => (x.f0, x.f1, x.f2, x.f3, x.f4))
theorem Qpb : Kd.Heap k30 := Kd.heap_iso _ (Kd.heap_pair (Kd.heap_int .i64) (Kd.heap_pair (Kd.heap_int .i64) (Kd.heap_pair (Kd.heap_slice 107 Qm2) (Kd.heap_pair (Kd.heap_slice 9 Kd.heap_string) Qo7))))
theorem Qo8 {w : World} {x : S30} {cs : List Value} (h : k30.K w x cs) : ∃ A2 c2 A3 c3, cs = [.int .i64 x.f0, .int .i64 x.f1, .slice A2 x.f2.length c2, .slice A3 x.f3.length c3, .int .i64 x.f4.f0, .int .i64 x.f4.f1] ∧ x.f2.length ≤ c2 ∧ Qbm.C w A2 x.f2.length x.f2 ∧ x.f3.length ≤ c3 ∧ Kd.string.C w A3 x.f3.length x.f3 := by
 obtain ⟨_, _, rfl, rfl, ⟨_, _, rfl, rfl, ⟨_, _, rfl, ⟨A2, c2, rfl, l2, g2⟩, ⟨_, _, rfl, ⟨A3, c3, rfl, l3, g3⟩, s4⟩⟩⟩⟩ := h; obtain rfl := Qgx s4; exact ⟨A2, c2, A3, c3, rfl, l2, g2, l3, g3⟩
theorem k30_mk (w : World) (x : S30) {A2 : Option Addr} {c2 : Nat} (l2 : x.f2.length ≤ c2) (g2 : Qbm.C w A2 x.f2.length x.f2) {A3 : Option Addr} {c3 : Nat} (l3 : x.f3.length ≤ c3) (g3 : Kd.string.C w A3 x.f3.length x.f3) : k30.K w x [.int .i64 x.f0, .int .i64 x.f1, .slice A2 x.f2.length c2, .slice A3 x.f3.length c3, .int .i64 x.f4.f0, .int .i64 x.f4.f1] := ⟨[.int .i64 x.f0], [.int .i64 x.f1, .slice A2 x.f2.length c2, .slice A3 x.f3.length c3, .int .i64 x.f4.f0, .int .i64 x.f4.f1], rfl, rfl, ⟨[.int .i64 x.f1], [.slice A2 x.f2.length c2, .slice A3 x.f3.length c3, .int .i64 x.f4.f0, .int .i64 x.f4.f1], rfl, rfl, ⟨[.slice A2 x.f2.length c2], [.slice A3 x.f3.length c3, .int .i64 x.f4.f0, .int .i64 x.f4.f1], rfl, ⟨A2, c2, rfl, l2, g2⟩, ⟨[.slice A3 x.f3.length c3], [.int .i64 x.f4.f0, .int .i64 x.f4.f1], rfl, ⟨A3, c3, rfl, l3, g3⟩, (k28_mk w x.f4 )⟩⟩⟩⟩
structure S32 where
 f0 : ByteArray
 f1 : S30
def z32 : S32 := ⟨(⟨#[]⟩ : ByteArray), z30⟩
def k32 : Kd S32 := Kd.iso (Kd.pair Kd.string k30) (fun x : S32 => (x.f0, x.f1))
theorem Qbn : Kd.Heap k32 := Kd.heap_iso _ (Kd.heap_pair Kd.heap_string Qpb)
theorem Qen {w : World} {x : S32} {cs : List Value} (h : k32.K w x cs) : ∃ A3 c3 A4 c4, cs = [.string x.f0, .int .i64 x.f1.f0, .int .i64 x.f1.f1, .slice A3 x.f1.f2.length c3, .slice A4 x.f1.f3.length c4, .int .i64 x.f1.f4.f0, .int .i64 x.f1.f4.f1] ∧ x.f1.f2.length ≤ c3 ∧ Qbm.C w A3 x.f1.f2.length x.f1.f2 ∧ x.f1.f3.length ≤ c4 ∧ Kd.string.C w A4 x.f1.f3.length x.f1.f3 := by
 obtain ⟨_, _, rfl, rfl, s1⟩ := h; obtain ⟨A3, c3, A4, c4, rfl, l3, g3, l4, g4⟩ := Qo8 s1; exact ⟨A3, c3, A4, c4, rfl, l3, g3, l4, g4⟩
theorem k32_mk (w : World) (x : S32) {A3 : Option Addr} {c3 : Nat} (l3 : x.f1.f2.length ≤ c3) (g3 : Qbm.C w A3 x.f1.f2.length x.f1.f2) {A4 : Option Addr} {c4 : Nat} (l4 : x.f1.f3.length ≤ c4) (g4 : Kd.string.C w A4 x.f1.f3.length x.f1.f3) : k32.K w x [.string x.f0, .int .i64 x.f1.f0, .int .i64 x.f1.f1, .slice A3 x.f1.f2.length c3, .slice A4 x.f1.f3.length c4, .int .i64 x.f1.f4.f0, .int .i64 x.f1.f4.f1] := ⟨[.string x.f0], [.int .i64 x.f1.f0, .int .i64 x.f1.f1, .slice A3 x.f1.f2.length c3, .slice A4 x.f1.f3.length c4, .int .i64 x.f1.f4.f0, .int .i64 x.f1.f4.f1], rfl, rfl, (k30_mk w x.f1 l3 g3 l4 g4)⟩
theorem Qap {W : World} {ok : Nat → Prop} {x : S32} {cs : List Value} (h : Kd.FK k32 W ok x cs) : ∃ A3 c3 A4 c4, cs = [.string x.f0, .int .i64 x.f1.f0, .int .i64 x.f1.f1, .slice A3 x.f1.f2.length c3, .slice A4 x.f1.f3.length c4, .int .i64 x.f1.f4.f0, .int .i64 x.f1.f4.f1] ∧ x.f1.f2.length ≤ c3 ∧ Kd.F Qbm W ok A3 x.f1.f2.length x.f1.f2 ∧ x.f1.f3.length ≤ c4 ∧ Kd.F Kd.string W ok A4 x.f1.f3.length x.f1.f3 := by
 obtain ⟨A3, c3, A4, c4, rfl, l3, _, l4, _⟩ := Qen (Kd.FK_now h); exact ⟨A3, c3, A4, c4, rfl, l3, (fun W' hW => by obtain ⟨A3_, c3_, A4_, c4_, he, l3_, g3_, l4_, g4_⟩ := Qen (h W' hW); injection (Option.some.inj (show some (Value.slice A3 x.f1.f2.length c3) = some (Value.slice A3_ x.f1.f2.length c3_) from congrArg (fun l => l[3]?) he)) with ha_ _ _; rw [ha_]; exact g3_), l4, (fun W' hW => by obtain ⟨A3_, c3_, A4_, c4_, he, l3_, g3_, l4_, g4_⟩ := Qen (h W' hW); injection (Option.some.inj (show some (Value.slice A4 x.f1.f3.length c4) = some (Value.slice A4_ x.f1.f3.length c4_) from congrArg (fun l => l[4]?) he)) with ha_ _ _; rw [ha_]; exact g4_)⟩
theorem Qc9 (W : World) (ok : Nat → Prop) (x : S32) {A3 : Option Addr} {c3 : Nat} (l3 : x.f1.f2.length ≤ c3) (g3 : Kd.F Qbm W ok A3 x.f1.f2.length x.f1.f2) {A4 : Option Addr} {c4 : Nat} (l4 : x.f1.f3.length ≤ c4) (g4 : Kd.F Kd.string W ok A4 x.f1.f3.length x.f1.f3) : Kd.FK k32 W ok x [.string x.f0, .int .i64 x.f1.f0, .int .i64 x.f1.f1, .slice A3 x.f1.f2.length c3, .slice A4 x.f1.f3.length c4, .int .i64 x.f1.f4.f0, .int .i64 x.f1.f4.f1] := fun W2 hW => k32_mk W2 x l3 (g3 W2 hW) l4 (g4 W2 hW)
def Qab (xs : List S32) (i : Int) : S32 := xs.getD i.toNat z32
theorem Qao {w : World} {A : Option Addr} {n : Nat} {xs : List S32} (h : Kd.C k32 w A n xs) (i : Int) (h0 : 0 ≤ i) (h1 : i < n) : ∃ ad A3 c3 A4 c4, A = some ad ∧ w.cell? (ad.add (i.toNat * 7)) = some (.string (Qab xs i).f0) ∧ w.cell? ⟨(ad.add (i.toNat * 7)).block, (ad.add (i.toNat * 7)).off + 1, none⟩ = some (.int .i64 (Qab xs i).f1.f0) ∧ w.cell? ⟨(ad.add (i.toNat * 7)).block, (ad.add (i.toNat * 7)).off + 2, none⟩ = some (.int .i64 (Qab xs i).f1.f1) ∧ w.cell? ⟨(ad.add (i.toNat * 7)).block, (ad.add (i.toNat * 7)).off + 3, none⟩ = some (.slice A3 (Qab xs i).f1.f2.length c3) ∧ w.cell? ⟨(ad.add (i.toNat * 7)).block, (ad.add (i.toNat * 7)).off + 4, none⟩ = some (.slice A4 (Qab xs i).f1.f3.length c4) ∧ w.cell? ⟨(ad.add (i.toNat * 7)).block, (ad.add (i.toNat * 7)).off + 5, none⟩ = some (.int .i64 (Qab xs i).f1.f4.f0) ∧ w.cell? ⟨(ad.add (i.toNat * 7)).block, (ad.add (i.toNat * 7)).off + 6, none⟩ = some (.int .i64 (Qab xs i).f1.f4.f1) ∧ (Qab xs i).f1.f2.length ≤ c3 ∧ Qbm.C w A3 (Qab xs i).f1.f2.length (Qab xs i).f1.f2 ∧ (Qab xs i).f1.f3.length ≤ c4 ∧ Kd.string.C w A4 (Qab xs i).f1.f3.length (Qab xs i).f1.f3 := by
 obtain ⟨ad, c, e, _, hK, hc0⟩ := Kd.C_get h z32 i h0 h1; have hc : ∀ j u, c[j]? = some u → w.cell? (ad.add (i.toNat * 7 + j)) = some u := hc0; obtain ⟨A3, c3, A4, c4, rfl, l3, g3, l4, g4⟩ := Qen hK; exact ⟨ad, A3, c3, A4, c4, e, hc 0 _ rfl, by rw [← Qaf _ _ 1 (by omega)]; exact hc 1 _ rfl, by rw [← Qaf _ _ 2 (by omega)]; exact hc 2 _ rfl, by rw [← Qaf _ _ 3 (by omega)]; exact hc 3 _ rfl, by rw [← Qaf _ _ 4 (by omega)]; exact hc 4 _ rfl, by rw [← Qaf _ _ 5 (by omega)]; exact hc 5 _ rfl, by rw [← Qaf _ _ 6 (by omega)]; exact hc 6 _ rfl, l3, g3, l4, g4⟩

structure S24 where
 f0 : Int
 f1 : Int
 f2 : (List S32)
def z24 : S24 := ⟨(0 : Int), (0 : Int), ([] : List S32)⟩
def k24 : Kd S24 := Kd.iso (Kd.pair (Kd.int .i64) (Kd.pair (Kd.int .i64) (Kd.slice 32 k32))) (fun x : S24 => (x.f0, x.f1, x.f2))
theorem k24_open {w : World} {x : S24} {cs : List Value} (h : k24.K w x cs) : ∃ A2 c2, cs = [.int .i64 x.f0, .int .i64 x.f1, .slice A2 x.f2.length c2] ∧ x.f2.length ≤ c2 ∧ k32.C w A2 x.f2.length x.f2 := by
 obtain ⟨_, _, rfl, rfl, ⟨_, _, rfl, rfl, ⟨A2, c2, rfl, l2, g2⟩⟩⟩ := h; exact ⟨A2, c2, rfl, l2, g2⟩
structure S76 where
 f0 : Int
 f1 : S28
def z76 : S76 := ⟨(0 : Int), z28⟩
def k76 : Kd S76 := Kd.iso (Kd.pair (Kd.int .i64) k28) (fun x : S76 => (x.f0, x.f1))
theorem Qn0 {w : World} {x : S76} {cs : List Value} (h : k76.K w x cs) : cs = [.int .i64 x.f0, .int .i64 x.f1.f0, .int .i64 x.f1.f1] := by
 obtain ⟨_, _, rfl, rfl, s1⟩ := h; obtain rfl := Qgx s1; exact rfl
theorem Qno (w : World) (base : Nat) (ok : Nat → Prop) (x : S76)  : k76.M w base ok x [.int .i64 x.f0, .int .i64 x.f1.f0, .int .i64 x.f1.f1] := ⟨[.int .i64 x.f0], [.int .i64 x.f1.f0, .int .i64 x.f1.f1], rfl, rfl, (Qmq w base ok x.f1 )⟩
def Qal (xs : List S76) (i : Int) : S76 := xs.getD i.toNat z76
theorem Qb1 {w : World} {A : Option Addr} {n : Nat} {xs : List S76} (h : Kd.C k76 w A n xs) (i : Int) (h0 : 0 ≤ i) (h1 : i < n) : ∃ ad , A = some ad ∧ w.cell? (ad.add (i.toNat * 3)) = some (.int .i64 (Qal xs i).f0) ∧ w.cell? ⟨(ad.add (i.toNat * 3)).block, (ad.add (i.toNat * 3)).off + 1, none⟩ = some (.int .i64 (Qal xs i).f1.f0) ∧ w.cell? ⟨(ad.add (i.toNat * 3)).block, (ad.add (i.toNat * 3)).off + 2, none⟩ = some (.int .i64 (Qal xs i).f1.f1) := by
 obtain ⟨ad, c, e, _, hK, hc0⟩ := Kd.C_get h z76 i h0 h1; have hc : ∀ j u, c[j]? = some u → w.cell? (ad.add (i.toNat * 3 + j)) = some u := hc0; obtain rfl := Qn0 hK; exact ⟨ad, e, hc 0 _ rfl, by rw [← Qaf _ _ 1 (by omega)]; exact hc 1 _ rfl, by rw [← Qaf _ _ 2 (by omega)]; exact hc 2 _ rfl⟩

end Go.Proofs.YtopijobdblfhoaaGreat.PTuskChains
