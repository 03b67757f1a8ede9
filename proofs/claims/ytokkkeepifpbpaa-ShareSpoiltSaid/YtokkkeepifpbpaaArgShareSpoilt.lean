-- written by a program of this session (pp.py)
import Derived.Test.YtokkkeepifpbpaaPShareSpoiltx4
import Derived.Test.YtokkkeepifpbpaaOpn
namespace Go.Proofs.Ytokkkeepifpbpaa.PShareSpoilt
open Go.RowKit Go.Proofs.YtokkkeepifpbpaaW.PrintWords Go.Proofs.YtokkkeepifpbpaaW.PrintLast
set_option linter.unusedVariables false
set_option maxRecDepth 100000
instance : Inhabited S23 := ⟨z23⟩
def G23 (x : S23) : Prop := (fun n : Int => (Lit.int .i64 n).wf = true) x.f0 ∧ (fun n : Int => (Lit.int .i64 n).wf = true) x.f1
theorem o23 : Opn.Opn Try.prog 23 k23 G23 :=
  (Opn.Opn.struct (P := Try.prog) (t := 23) Try.underlying23 (by kernel_rfl) (by kernel_rfl) (by kernel_rfl) (by kernel_rfl) (Opn.Seq.cons (Opn.Opn.int (P := Try.prog) (t := 3) (k := .i64) (by kernel_rfl) (by kernel_rfl)) (Opn.Seq.one (Opn.Opn.int (P := Try.prog) (t := 3) (k := .i64) (by kernel_rfl) (by kernel_rfl)))) (fun x : S23 => (x.f0, x.f1)) (fun p => ⟨p.1, p.2⟩) (fun _ => rfl)).weaken (fun _ h => h)
structure S59 where
  f0 : List S23
  f1 : List Int
  f2 : Int
  f3 : S23
def z59 : S59 := ⟨[], [], 0, z23⟩
def k59 : Kd S59 := Kd.iso (Kd.pair (Kd.slice 23 k23) (Kd.pair (Kd.slice 3 (Kd.int .i64)) (Kd.pair (Kd.int .i64) k23))) (fun x : S59 => (x.f0, x.f1, x.f2, x.f3))
theorem k59_open {w : World} {x : S59} {cs : List Value} (h : k59.K w x cs) : ∃ A0 c0 A1 c1, cs = [.slice A0 x.f0.length c0, .slice A1 x.f1.length c1, .int .i64 x.f2, .int .i64 x.f3.f0, .int .i64 x.f3.f1] ∧ x.f0.length ≤ c0 ∧ Kd.C k23 w A0 x.f0.length x.f0 ∧ x.f1.length ≤ c1 ∧ Kd.C (Kd.int .i64) w A1 x.f1.length x.f1 := by
  obtain ⟨_, _, rfl, ⟨A0, c0, rfl, h0, g0⟩, ⟨_, _, rfl, ⟨A1, c1, rfl, h1, g1⟩, ⟨_, _, rfl, rfl, s3⟩⟩⟩ := h
  obtain rfl := k23_open s3
  exact ⟨A0, c0, A1, c1, rfl, h0, g0, h1, g1⟩
instance : Inhabited S59 := ⟨z59⟩
def G59 (x : S59) : Prop := (fun xs : List S23 => xs.length * 16 ≤ 140737488351232 ∧ ∀ x ∈ xs, G23 x) x.f0 ∧ (fun xs : List Int => xs.length * 8 ≤ 140737488351232 ∧ ∀ x ∈ xs, (fun n : Int => (Lit.int .i64 n).wf = true) x) x.f1 ∧ (fun n : Int => (Lit.int .i64 n).wf = true) x.f2 ∧ G23 x.f3
theorem o59 : Opn.Opn Try.prog 59 k59 G59 :=
  (Opn.Opn.struct (P := Try.prog) (t := 59) Try.underlying59 (by kernel_rfl) (by kernel_rfl) (by kernel_rfl) (by kernel_rfl) (Opn.Seq.cons (Opn.Opn.slice (P := Try.prog) (t := 41) (e := 23) (bytes := 16) (by kernel_rfl) (by kernel_rfl) (by kernel_rfl) o23) (Opn.Seq.cons (Opn.Opn.slice (P := Try.prog) (t := 50) (e := 3) (bytes := 8) (by kernel_rfl) (by kernel_rfl) (by kernel_rfl) (Opn.Opn.int (P := Try.prog) (t := 3) (k := .i64) (by kernel_rfl) (by kernel_rfl))) (Opn.Seq.cons (Opn.Opn.int (P := Try.prog) (t := 3) (k := .i64) (by kernel_rfl) (by kernel_rfl)) (Opn.Seq.one o23)))) (fun x : S59 => (x.f0, x.f1, x.f2, x.f3)) (fun p => ⟨p.1, p.2.1, p.2.2.1, p.2.2.2⟩) (fun _ => rfl)).weaken (fun _ h => h)
/-- THE ONE PURE STATEMENT of selvedgelaw04_ShareSpoilt -/
def selvedgelaw04_ShareSpoilt.Pure : Prop := ∀ (x0 : S59), G59 x0 → ∃ k, selvedgelaw04_ShareSpoilt.f k x0.f0 x0.f1 x0.f2 x0.f3.f0 x0.f3.f1 = some true
end Go.Proofs.Ytokkkeepifpbpaa.PShareSpoilt
