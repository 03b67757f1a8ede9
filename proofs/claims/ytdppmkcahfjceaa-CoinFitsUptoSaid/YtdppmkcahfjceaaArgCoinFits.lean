-- written by a program of this session (pp.py)
import Derived.Test.YtdppmkcahfjceaaPCoinFitsx5
import Derived.Test.YtdppmkcahfjceaaVCoinFitsOpu
namespace Go.Proofs.Ytdppmkcahfjceaa.PCoinFits
open Go.RowKit Go.Proofs.YtdppmkcahfjceaaW.PrintWords Go.Proofs.YtdppmkcahfjceaaW.PrintLast
set_option linter.unusedVariables false
set_option maxRecDepth 100000
instance : Inhabited S193 := ⟨z193⟩
def G193 (x : S193) : Prop := (fun n : Int => (Lit.int .i64 n).wf = true) x.f0 ∧ (fun n : Int => (Lit.int .i64 n).wf = true) x.f1 ∧ (fun xs : List ByteArray => xs.length * 16 ≤ 140737488351232 ∧ ∀ x ∈ xs, (fun s : ByteArray => s.size ≤ 140737488351232) x) x.f2
def B193 (x : S193) : Nat := (fun _ : Int => 1) x.f0 + (fun _ : Int => 1) x.f1 + (fun xs : List ByteArray => (xs.map (fun s : ByteArray => s.size + 1)).sum + 1) x.f2 + 1
theorem o193 : Opn.Opu Try.prog 193 k193 G193 B193 :=
  (Opn.Opu.struct (P := Try.prog) (t := 193) Try.underlying193 (by kernel_rfl) (by kernel_rfl) (by kernel_rfl) (by kernel_rfl) (Opn.Squ.cons (Opn.Opu.int (P := Try.prog) (t := 3) (k := .i64) (by kernel_rfl) (by kernel_rfl)) (Opn.Squ.cons (Opn.Opu.int (P := Try.prog) (t := 3) (k := .i64) (by kernel_rfl) (by kernel_rfl)) (Opn.Squ.one (Opn.Opu.slice (P := Try.prog) (t := 36) (e := 9) (bytes := 16) (by kernel_rfl) (by kernel_rfl) (by kernel_rfl) (Opn.Opu.string (P := Try.prog) (t := 9) (by kernel_rfl) (by kernel_rfl)))))) (fun x : S193 => (x.f0, x.f1, x.f2)) (fun p => ⟨p.1, p.2.1, p.2.2⟩) (fun _ => rfl)).weaken (fun _ h => h) (fun x => by unfold B193; simp only []; omega)
instance : Inhabited S23 := ⟨z23⟩
def G23 (x : S23) : Prop := (fun n : Int => (Lit.int .i64 n).wf = true) x.f0 ∧ (fun n : Int => (Lit.int .i64 n).wf = true) x.f1
def B23 (x : S23) : Nat := (fun _ : Int => 1) x.f0 + (fun _ : Int => 1) x.f1 + 1
theorem o23 : Opn.Opu Try.prog 23 k23 G23 B23 :=
  (Opn.Opu.struct (P := Try.prog) (t := 23) Try.underlying23 (by kernel_rfl) (by kernel_rfl) (by kernel_rfl) (by kernel_rfl) (Opn.Squ.cons (Opn.Opu.int (P := Try.prog) (t := 3) (k := .i64) (by kernel_rfl) (by kernel_rfl)) (Opn.Squ.one (Opn.Opu.int (P := Try.prog) (t := 3) (k := .i64) (by kernel_rfl) (by kernel_rfl)))) (fun x : S23 => (x.f0, x.f1)) (fun p => ⟨p.1, p.2⟩) (fun _ => rfl)).weaken (fun _ h => h) (fun x => by unfold B23; simp only []; omega)
structure S38 where
  f0 : Int
  f1 : Int
  f2 : List S193
  f3 : List ByteArray
  f4 : S23
def z38 : S38 := ⟨0, 0, [], [], z23⟩
def k38 : Kd S38 := Kd.iso (Kd.pair (Kd.int .i64) (Kd.pair (Kd.int .i64) (Kd.pair (Kd.slice 193 k193) (Kd.pair (Kd.slice 9 Kd.string) k23)))) (fun x : S38 => (x.f0, x.f1, x.f2, x.f3, x.f4))
theorem k38_open {w : World} {x : S38} {cs : List Value} (h : k38.K w x cs) : ∃ A2 c2 A3 c3, cs = [.int .i64 x.f0, .int .i64 x.f1, .slice A2 x.f2.length c2, .slice A3 x.f3.length c3, .int .i64 x.f4.f0, .int .i64 x.f4.f1] ∧ x.f2.length ≤ c2 ∧ Kd.C k193 w A2 x.f2.length x.f2 ∧ x.f3.length ≤ c3 ∧ Kd.C Kd.string w A3 x.f3.length x.f3 := by
  obtain ⟨_, _, rfl, rfl, ⟨_, _, rfl, rfl, ⟨_, _, rfl, ⟨A2, c2, rfl, h2, g2⟩, ⟨_, _, rfl, ⟨A3, c3, rfl, h3, g3⟩, s4⟩⟩⟩⟩ := h
  obtain rfl := k23_open s4
  exact ⟨A2, c2, A3, c3, rfl, h2, g2, h3, g3⟩
instance : Inhabited S38 := ⟨z38⟩
def G38 (x : S38) : Prop := (fun n : Int => (Lit.int .i64 n).wf = true) x.f0 ∧ (fun n : Int => (Lit.int .i64 n).wf = true) x.f1 ∧ (fun xs : List S193 => xs.length * 40 ≤ 140737488351232 ∧ ∀ x ∈ xs, G193 x) x.f2 ∧ (fun xs : List ByteArray => xs.length * 16 ≤ 140737488351232 ∧ ∀ x ∈ xs, (fun s : ByteArray => s.size ≤ 140737488351232) x) x.f3 ∧ G23 x.f4
def B38 (x : S38) : Nat := (fun _ : Int => 1) x.f0 + (fun _ : Int => 1) x.f1 + (fun xs : List S193 => (xs.map B193).sum + 1) x.f2 + (fun xs : List ByteArray => (xs.map (fun s : ByteArray => s.size + 1)).sum + 1) x.f3 + B23 x.f4 + 1
theorem o38 : Opn.Opu Try.prog 38 k38 G38 B38 :=
  (Opn.Opu.struct (P := Try.prog) (t := 38) Try.underlying38 (by kernel_rfl) (by kernel_rfl) (by kernel_rfl) (by kernel_rfl) (Opn.Squ.cons (Opn.Opu.int (P := Try.prog) (t := 3) (k := .i64) (by kernel_rfl) (by kernel_rfl)) (Opn.Squ.cons (Opn.Opu.int (P := Try.prog) (t := 3) (k := .i64) (by kernel_rfl) (by kernel_rfl)) (Opn.Squ.cons (Opn.Opu.slice (P := Try.prog) (t := 35) (e := 193) (bytes := 40) (by kernel_rfl) (by kernel_rfl) (by kernel_rfl) o193) (Opn.Squ.cons (Opn.Opu.slice (P := Try.prog) (t := 36) (e := 9) (bytes := 16) (by kernel_rfl) (by kernel_rfl) (by kernel_rfl) (Opn.Opu.string (P := Try.prog) (t := 9) (by kernel_rfl) (by kernel_rfl))) (Opn.Squ.one o23))))) (fun x : S38 => (x.f0, x.f1, x.f2, x.f3, x.f4)) (fun p => ⟨p.1, p.2.1, p.2.2.1, p.2.2.2.1, p.2.2.2.2⟩) (fun _ => rfl)).weaken (fun _ h => h) (fun x => by unfold B38; simp only []; omega)
structure S40 where
  f0 : ByteArray
  f1 : Int
  f2 : S38
  f3 : S23
def z40 : S40 := ⟨ByteArray.empty, 0, z38, z23⟩
def k40 : Kd S40 := Kd.iso (Kd.pair Kd.string (Kd.pair (Kd.int .i64) (Kd.pair k38 k23))) (fun x : S40 => (x.f0, x.f1, x.f2, x.f3))
theorem k40_open {w : World} {x : S40} {cs : List Value} (h : k40.K w x cs) : ∃ A4 c4 A5 c5, cs = [.string x.f0, .int .i64 x.f1, .int .i64 x.f2.f0, .int .i64 x.f2.f1, .slice A4 x.f2.f2.length c4, .slice A5 x.f2.f3.length c5, .int .i64 x.f2.f4.f0, .int .i64 x.f2.f4.f1, .int .i64 x.f3.f0, .int .i64 x.f3.f1] ∧ x.f2.f2.length ≤ c4 ∧ Kd.C k193 w A4 x.f2.f2.length x.f2.f2 ∧ x.f2.f3.length ≤ c5 ∧ Kd.C Kd.string w A5 x.f2.f3.length x.f2.f3 := by
  obtain ⟨_, _, rfl, rfl, ⟨_, _, rfl, rfl, ⟨_, _, rfl, s2, s3⟩⟩⟩ := h
  obtain ⟨A4, c4, A5, c5, rfl, h4, g4, h5, g5⟩ := k38_open s2
  obtain rfl := k23_open s3
  exact ⟨A4, c4, A5, c5, rfl, h4, g4, h5, g5⟩
instance : Inhabited S40 := ⟨z40⟩
def G40 (x : S40) : Prop := (fun s : ByteArray => s.size ≤ 140737488351232) x.f0 ∧ (fun n : Int => (Lit.int .i64 n).wf = true) x.f1 ∧ G38 x.f2 ∧ G23 x.f3
def B40 (x : S40) : Nat := (fun s : ByteArray => s.size + 1) x.f0 + (fun _ : Int => 1) x.f1 + B38 x.f2 + B23 x.f3 + 1
theorem o40 : Opn.Opu Try.prog 40 k40 G40 B40 :=
  (Opn.Opu.struct (P := Try.prog) (t := 40) Try.underlying40 (by kernel_rfl) (by kernel_rfl) (by kernel_rfl) (by kernel_rfl) (Opn.Squ.cons (Opn.Opu.string (P := Try.prog) (t := 9) (by kernel_rfl) (by kernel_rfl)) (Opn.Squ.cons (Opn.Opu.int (P := Try.prog) (t := 3) (k := .i64) (by kernel_rfl) (by kernel_rfl)) (Opn.Squ.cons o38 (Opn.Squ.one o23)))) (fun x : S40 => (x.f0, x.f1, x.f2, x.f3)) (fun p => ⟨p.1, p.2.1, p.2.2.1, p.2.2.2⟩) (fun _ => rfl)).weaken (fun _ h => h) (fun x => by unfold B40; simp only []; omega)
/-- THE ONE PURE STATEMENT of selvedgelaw12_CoinFits -/
def selvedgelaw12_CoinFits.Pure : Prop := ∀ (x0 : S40), G40 x0 → B40 x0 ≤ 1048576 → ∃ k, selvedgelaw12_CoinFits.f k x0.f0 x0.f1 x0.f2.f0 x0.f2.f1 x0.f2.f2 x0.f2.f3 x0.f2.f4.f0 x0.f2.f4.f1 x0.f3.f0 x0.f3.f1 = some true
end Go.Proofs.Ytdppmkcahfjceaa.PCoinFits
