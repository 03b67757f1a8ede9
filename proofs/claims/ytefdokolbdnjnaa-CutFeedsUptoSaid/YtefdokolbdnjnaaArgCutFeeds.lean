-- written by a program of this session (pp.py)
import Derived.Test.YtefdokolbdnjnaaPCutFeedsx6
import Derived.Test.YtefdokolbdnjnaaVCutFeedsOpu
namespace Go.Proofs.Ytefdokolbdnjnaa.PCutFeeds
open Go.RowKit Go.Proofs.YtefdokolbdnjnaaW.PrintWords Go.Proofs.YtefdokolbdnjnaaW.PrintLast
set_option linter.unusedVariables false
set_option maxRecDepth 100000
instance : Inhabited S39 := ⟨z39⟩
def G39 (x : S39) : Prop := (fun n : Int => (Lit.int .i64 n).wf = true) x.f0 ∧ (fun s : ByteArray => s.size ≤ 140737488351232) x.f1 ∧ (fun xs : List ByteArray => xs.length * 16 ≤ 140737488351232 ∧ ∀ x ∈ xs, (fun s : ByteArray => s.size ≤ 140737488351232) x) x.f2
def B39 (x : S39) : Nat := (fun _ : Int => 1) x.f0 + (fun s : ByteArray => s.size + 1) x.f1 + (fun xs : List ByteArray => (xs.map (fun s : ByteArray => s.size + 1)).sum + 1) x.f2 + 1
theorem o39 : Opn.Opu Try.prog 39 k39 G39 B39 :=
  (Opn.Opu.struct (P := Try.prog) (t := 39) Try.underlying39 (by kernel_rfl) (by kernel_rfl) (by kernel_rfl) (by kernel_rfl) (Opn.Squ.cons (Opn.Opu.int (P := Try.prog) (t := 3) (k := .i64) (by kernel_rfl) (by kernel_rfl)) (Opn.Squ.cons (Opn.Opu.string (P := Try.prog) (t := 9) (by kernel_rfl) (by kernel_rfl)) (Opn.Squ.one (Opn.Opu.slice (P := Try.prog) (t := 37) (e := 9) (bytes := 16) (by kernel_rfl) (by kernel_rfl) (by kernel_rfl) (Opn.Opu.string (P := Try.prog) (t := 9) (by kernel_rfl) (by kernel_rfl)))))) (fun x : S39 => (x.f0, x.f1, x.f2)) (fun p => ⟨p.1, p.2.1, p.2.2⟩) (fun _ => rfl)).weaken (fun _ h => h) (fun x => by unfold B39; simp only []; omega)
instance : Inhabited S40 := ⟨z40⟩
def G40 (x : S40) : Prop := (fun n : Int => (Lit.int .i64 n).wf = true) x.f0 ∧ (fun s : ByteArray => s.size ≤ 140737488351232) x.f1 ∧ (fun xs : List ByteArray => xs.length * 16 ≤ 140737488351232 ∧ ∀ x ∈ xs, (fun s : ByteArray => s.size ≤ 140737488351232) x) x.f2
def B40 (x : S40) : Nat := (fun _ : Int => 1) x.f0 + (fun s : ByteArray => s.size + 1) x.f1 + (fun xs : List ByteArray => (xs.map (fun s : ByteArray => s.size + 1)).sum + 1) x.f2 + 1
theorem o40 : Opn.Opu Try.prog 40 k40 G40 B40 :=
  (Opn.Opu.struct (P := Try.prog) (t := 40) Try.underlying40 (by kernel_rfl) (by kernel_rfl) (by kernel_rfl) (by kernel_rfl) (Opn.Squ.cons (Opn.Opu.int (P := Try.prog) (t := 3) (k := .i64) (by kernel_rfl) (by kernel_rfl)) (Opn.Squ.cons (Opn.Opu.string (P := Try.prog) (t := 9) (by kernel_rfl) (by kernel_rfl)) (Opn.Squ.one (Opn.Opu.slice (P := Try.prog) (t := 37) (e := 9) (bytes := 16) (by kernel_rfl) (by kernel_rfl) (by kernel_rfl) (Opn.Opu.string (P := Try.prog) (t := 9) (by kernel_rfl) (by kernel_rfl)))))) (fun x : S40 => (x.f0, x.f1, x.f2)) (fun p => ⟨p.1, p.2.1, p.2.2⟩) (fun _ => rfl)).weaken (fun _ h => h) (fun x => by unfold B40; simp only []; omega)
structure S42 where
  f0 : S39
  f1 : List ByteArray
  f2 : S40
  f3 : ByteArray
def z42 : S42 := ⟨z39, [], z40, ByteArray.empty⟩
def k42 : Kd S42 := Kd.iso (Kd.pair k39 (Kd.pair (Kd.slice 9 Kd.string) (Kd.pair k40 Kd.string))) (fun x : S42 => (x.f0, x.f1, x.f2, x.f3))
theorem k42_open {w : World} {x : S42} {cs : List Value} (h : k42.K w x cs) : ∃ A2 c2 A3 c3 A6 c6, cs = [.int .i64 x.f0.f0, .string x.f0.f1, .slice A2 x.f0.f2.length c2, .slice A3 x.f1.length c3, .int .i64 x.f2.f0, .string x.f2.f1, .slice A6 x.f2.f2.length c6, .string x.f3] ∧ x.f0.f2.length ≤ c2 ∧ Kd.C Kd.string w A2 x.f0.f2.length x.f0.f2 ∧ x.f1.length ≤ c3 ∧ Kd.C Kd.string w A3 x.f1.length x.f1 ∧ x.f2.f2.length ≤ c6 ∧ Kd.C Kd.string w A6 x.f2.f2.length x.f2.f2 := by
  obtain ⟨_, _, rfl, s0, ⟨_, _, rfl, ⟨A3, c3, rfl, h3, g3⟩, ⟨_, _, rfl, s2, rfl⟩⟩⟩ := h
  obtain ⟨A2, c2, rfl, h2, g2⟩ := k39_open s0
  obtain ⟨A6, c6, rfl, h6, g6⟩ := k40_open s2
  exact ⟨A2, c2, A3, c3, A6, c6, rfl, h2, g2, h3, g3, h6, g6⟩
instance : Inhabited S42 := ⟨z42⟩
def G42 (x : S42) : Prop := G39 x.f0 ∧ (fun xs : List ByteArray => xs.length * 16 ≤ 140737488351232 ∧ ∀ x ∈ xs, (fun s : ByteArray => s.size ≤ 140737488351232) x) x.f1 ∧ G40 x.f2 ∧ (fun s : ByteArray => s.size ≤ 140737488351232) x.f3
def B42 (x : S42) : Nat := B39 x.f0 + (fun xs : List ByteArray => (xs.map (fun s : ByteArray => s.size + 1)).sum + 1) x.f1 + B40 x.f2 + (fun s : ByteArray => s.size + 1) x.f3 + 1
theorem o42 : Opn.Opu Try.prog 42 k42 G42 B42 :=
  (Opn.Opu.struct (P := Try.prog) (t := 42) Try.underlying42 (by kernel_rfl) (by kernel_rfl) (by kernel_rfl) (by kernel_rfl) (Opn.Squ.cons o39 (Opn.Squ.cons (Opn.Opu.slice (P := Try.prog) (t := 37) (e := 9) (bytes := 16) (by kernel_rfl) (by kernel_rfl) (by kernel_rfl) (Opn.Opu.string (P := Try.prog) (t := 9) (by kernel_rfl) (by kernel_rfl))) (Opn.Squ.cons o40 (Opn.Squ.one (Opn.Opu.string (P := Try.prog) (t := 9) (by kernel_rfl) (by kernel_rfl)))))) (fun x : S42 => (x.f0, x.f1, x.f2, x.f3)) (fun p => ⟨p.1, p.2.1, p.2.2.1, p.2.2.2⟩) (fun _ => rfl)).weaken (fun _ h => h) (fun x => by unfold B42; simp only []; omega)
/-- THE ONE PURE STATEMENT of selvedgelaw15_CutFeeds -/
def selvedgelaw15_CutFeeds.Pure : Prop := ∀ (x0 : S42), G42 x0 → B42 x0 ≤ 1048576 → ∃ k, selvedgelaw15_CutFeeds.f k x0.f0.f0 x0.f0.f1 x0.f0.f2 x0.f1 x0.f2.f0 x0.f2.f1 x0.f2.f2 x0.f3 = some true
end Go.Proofs.Ytefdokolbdnjnaa.PCutFeeds
