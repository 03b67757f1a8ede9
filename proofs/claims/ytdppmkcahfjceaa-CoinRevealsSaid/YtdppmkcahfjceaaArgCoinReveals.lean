-- written by a program of this session (pp.py)
import Derived.Test.YtdppmkcahfjceaaPCoinRevealsx8
import Derived.Test.YtdppmkcahfjceaaVCoinRevealsOpn
namespace Go.Proofs.Ytdppmkcahfjceaa.PCoinReveals
open Go.RowKit Go.Proofs.YtdppmkcahfjceaaW.PrintWords Go.Proofs.YtdppmkcahfjceaaW.PrintLast
set_option linter.unusedVariables false
set_option maxRecDepth 100000
instance : Inhabited S193 := ⟨z193⟩
def G193 (x : S193) : Prop := (fun n : Int => (Lit.int .i64 n).wf = true) x.f0 ∧ (fun n : Int => (Lit.int .i64 n).wf = true) x.f1 ∧ (fun xs : List ByteArray => xs.length * 16 ≤ 140737488351232 ∧ ∀ x ∈ xs, (fun s : ByteArray => s.size ≤ 140737488351232) x) x.f2
theorem o193 : Opn.Opn Try.prog 193 k193 G193 :=
  (Opn.Opn.struct (P := Try.prog) (t := 193) Try.underlying193 (by kernel_rfl) (by kernel_rfl) (by kernel_rfl) (by kernel_rfl) (Opn.Seq.cons (Opn.Opn.int (P := Try.prog) (t := 3) (k := .i64) (by kernel_rfl) (by kernel_rfl)) (Opn.Seq.cons (Opn.Opn.int (P := Try.prog) (t := 3) (k := .i64) (by kernel_rfl) (by kernel_rfl)) (Opn.Seq.one (Opn.Opn.slice (P := Try.prog) (t := 36) (e := 9) (bytes := 16) (by kernel_rfl) (by kernel_rfl) (by kernel_rfl) (Opn.Opn.string (P := Try.prog) (t := 9) (by kernel_rfl) (by kernel_rfl)))))) (fun x : S193 => (x.f0, x.f1, x.f2)) (fun p => ⟨p.1, p.2.1, p.2.2⟩) (fun _ => rfl)).weaken (fun _ h => h)
instance : Inhabited S23 := ⟨z23⟩
def G23 (x : S23) : Prop := (fun n : Int => (Lit.int .i64 n).wf = true) x.f0 ∧ (fun n : Int => (Lit.int .i64 n).wf = true) x.f1
theorem o23 : Opn.Opn Try.prog 23 k23 G23 :=
  (Opn.Opn.struct (P := Try.prog) (t := 23) Try.underlying23 (by kernel_rfl) (by kernel_rfl) (by kernel_rfl) (by kernel_rfl) (Opn.Seq.cons (Opn.Opn.int (P := Try.prog) (t := 3) (k := .i64) (by kernel_rfl) (by kernel_rfl)) (Opn.Seq.one (Opn.Opn.int (P := Try.prog) (t := 3) (k := .i64) (by kernel_rfl) (by kernel_rfl)))) (fun x : S23 => (x.f0, x.f1)) (fun p => ⟨p.1, p.2⟩) (fun _ => rfl)).weaken (fun _ h => h)
instance : Inhabited S38 := ⟨z38⟩
def G38 (x : S38) : Prop := (fun n : Int => (Lit.int .i64 n).wf = true) x.f0 ∧ (fun n : Int => (Lit.int .i64 n).wf = true) x.f1 ∧ (fun xs : List S193 => xs.length * 40 ≤ 140737488351232 ∧ ∀ x ∈ xs, G193 x) x.f2 ∧ (fun xs : List ByteArray => xs.length * 16 ≤ 140737488351232 ∧ ∀ x ∈ xs, (fun s : ByteArray => s.size ≤ 140737488351232) x) x.f3 ∧ G23 x.f4
theorem o38 : Opn.Opn Try.prog 38 k38 G38 :=
  (Opn.Opn.struct (P := Try.prog) (t := 38) Try.underlying38 (by kernel_rfl) (by kernel_rfl) (by kernel_rfl) (by kernel_rfl) (Opn.Seq.cons (Opn.Opn.int (P := Try.prog) (t := 3) (k := .i64) (by kernel_rfl) (by kernel_rfl)) (Opn.Seq.cons (Opn.Opn.int (P := Try.prog) (t := 3) (k := .i64) (by kernel_rfl) (by kernel_rfl)) (Opn.Seq.cons (Opn.Opn.slice (P := Try.prog) (t := 35) (e := 193) (bytes := 40) (by kernel_rfl) (by kernel_rfl) (by kernel_rfl) o193) (Opn.Seq.cons (Opn.Opn.slice (P := Try.prog) (t := 36) (e := 9) (bytes := 16) (by kernel_rfl) (by kernel_rfl) (by kernel_rfl) (Opn.Opn.string (P := Try.prog) (t := 9) (by kernel_rfl) (by kernel_rfl))) (Opn.Seq.one o23))))) (fun x : S38 => (x.f0, x.f1, x.f2, x.f3, x.f4)) (fun p => ⟨p.1, p.2.1, p.2.2.1, p.2.2.2.1, p.2.2.2.2⟩) (fun _ => rfl)).weaken (fun _ h => h)
instance : Inhabited S59 := ⟨z59⟩
def G59 (x : S59) : Prop := (fun s : ByteArray => s.size ≤ 140737488351232) x.f0 ∧ G38 x.f1
theorem o59 : Opn.Opn Try.prog 59 k59 G59 :=
  (Opn.Opn.struct (P := Try.prog) (t := 59) Try.underlying59 (by kernel_rfl) (by kernel_rfl) (by kernel_rfl) (by kernel_rfl) (Opn.Seq.cons (Opn.Opn.string (P := Try.prog) (t := 9) (by kernel_rfl) (by kernel_rfl)) (Opn.Seq.one o38)) (fun x : S59 => (x.f0, x.f1)) (fun p => ⟨p.1, p.2⟩) (fun _ => rfl)).weaken (fun _ h => h)
structure S48 where
  f0 : Int
  f1 : Int
  f2 : List S59
def z48 : S48 := ⟨0, 0, []⟩
def k48 : Kd S48 := Kd.iso (Kd.pair (Kd.int .i64) (Kd.pair (Kd.int .i64) (Kd.slice 59 k59))) (fun x : S48 => (x.f0, x.f1, x.f2))
theorem k48_open {w : World} {x : S48} {cs : List Value} (h : k48.K w x cs) : ∃ A2 c2, cs = [.int .i64 x.f0, .int .i64 x.f1, .slice A2 x.f2.length c2] ∧ x.f2.length ≤ c2 ∧ Kd.C k59 w A2 x.f2.length x.f2 := by
  obtain ⟨_, _, rfl, rfl, ⟨_, _, rfl, rfl, ⟨A2, c2, rfl, h2, g2⟩⟩⟩ := h
  exact ⟨A2, c2, rfl, h2, g2⟩
instance : Inhabited S48 := ⟨z48⟩
def G48 (x : S48) : Prop := (fun n : Int => (Lit.int .i64 n).wf = true) x.f0 ∧ (fun n : Int => (Lit.int .i64 n).wf = true) x.f1 ∧ (fun xs : List S59 => xs.length * 96 ≤ 140737488351232 ∧ ∀ x ∈ xs, G59 x) x.f2
theorem o48 : Opn.Opn Try.prog 48 k48 G48 :=
  (Opn.Opn.struct (P := Try.prog) (t := 48) Try.underlying48 (by kernel_rfl) (by kernel_rfl) (by kernel_rfl) (by kernel_rfl) (Opn.Seq.cons (Opn.Opn.int (P := Try.prog) (t := 3) (k := .i64) (by kernel_rfl) (by kernel_rfl)) (Opn.Seq.cons (Opn.Opn.int (P := Try.prog) (t := 3) (k := .i64) (by kernel_rfl) (by kernel_rfl)) (Opn.Seq.one (Opn.Opn.slice (P := Try.prog) (t := 46) (e := 59) (bytes := 96) (by kernel_rfl) (by kernel_rfl) (by kernel_rfl) o59)))) (fun x : S48 => (x.f0, x.f1, x.f2)) (fun p => ⟨p.1, p.2.1, p.2.2⟩) (fun _ => rfl)).weaken (fun _ h => h)
/-- THE ONE PURE STATEMENT of selvedgelaw12_CoinReveals -/
def selvedgelaw12_CoinReveals.Pure : Prop := ∀ (x0 : S48) (a1 : Int), G48 x0 → (fun n : Int => (Lit.int .i64 n).wf = true) a1 → ∃ k, selvedgelaw12_CoinReveals.f k x0.f0 x0.f1 x0.f2 a1 = some true
end Go.Proofs.Ytdppmkcahfjceaa.PCoinReveals
