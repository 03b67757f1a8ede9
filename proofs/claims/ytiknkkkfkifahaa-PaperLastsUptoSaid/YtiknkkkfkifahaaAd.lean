import Derived.Lib.Hide
import Derived.Defers
import Derived.Recover
import Derived.BigQuiet
import Derived.StillTailTactics
import Derived.Laws.Pointers
import Derived.Test.YtiknkkkfkifahaaProg
import Derived.Test.YtiknkkkfkifahaaWWords
/-
  paper.Append walked: a deferred closure that stores the paper. By an AI agent.
-/
namespace Go.Proofs.Ytiknkkkfkifahaa.Sa
open Go.RowKit Go.Proofs.YtiknkkkfkifahaaW.PrintWords
set_option linter.unusedVariables false
set_option linter.unusedSimpArgs false

abbrev PCs (s wt : ByteArray) (fu : Int) (off : Bool) : Array Value := #[.string s, .string wt, .int .i64 fu, .bool off]
abbrev PBl (W : World) (g : Nat) (s wt : ByteArray) (fu : Int) (off : Bool) : Prop := W.heap[g]? = some (.cells (PCs s wt fu off) 60 (0, 0))

set_option maxHeartbeats 2000000 in
theorem app1_d (pb ob : Nat) (hne : pb ≠ ob) (s wt s' wt' : ByteArray) (fu fu' : Int) (off off' : Bool) (w : World) (hp : PBl w pb s wt fu off) (ho : PBl w ob s' wt' fu' off') :
    CallsD Try.prog 60 #[.pointer (some ⟨pb, 0, none⟩), .pointer (some ⟨ob, 0, none⟩)] .returning w fun e u' w' => u' = .returning ∧ (e = .returned (.tuple #[]) ∧ PBl w' ob s wt fu off ∧ Below ob w w') := by
  have p0 : w.cell? ⟨pb, 0, none⟩ = some (.string s) := blk_cell hp 0
  have p1 : w.cell? ⟨pb, 1, none⟩ = some (.string wt) := blk_cell hp 1
  have p2 : w.cell? ⟨pb, 2, none⟩ = some (.int .i64 fu) := blk_cell hp 2
  have p3 : w.cell? ⟨pb, 3, none⟩ = some (.bool off) := blk_cell hp 3
  have o0 : w.cell? ⟨ob, 0, none⟩ = some (.string s') := blk_cell ho 0
  have o1 : w.cell? ⟨ob, 1, none⟩ = some (.string wt') := blk_cell ho 1
  have o2 : w.cell? ⟨ob, 2, none⟩ = some (.int .i64 fu') := blk_cell ho 2
  have o3 : w.cell? ⟨ob, 3, none⟩ = some (.bool off') := blk_cell ho 3
  have f0 := blk_frozen ho 0
  have f1 := blk_frozen ho 1
  have f2 := blk_frozen ho 2
  have f3 := blk_frozen ho 3
  have HO := Lib.hid ho
  clear hp ho
  go_enter_d Try.func60, Try.ntmps60
  go_wp2
  go_end0
  refine ⟨rfl, ?_, ((((Below.refl ob w).setCell (p := ⟨ob, 0, none⟩) (Nat.le_refl _) _).setCell (p := ⟨ob, 1, none⟩) (Nat.le_refl _) _).setCell (p := ⟨ob, 2, none⟩) (Nat.le_refl _) _).setCell (p := ⟨ob, 3, none⟩) (Nat.le_refl _) _⟩
  exact blk_set (blk_set (blk_set (blk_set HO.out 0 _) 1 _) 2 _) 3 _

/-- What Append answers: the paper, and why not. f, e: the frame. -/
def appB (s wt : ByteArray) (fu : Int) (off : Bool) (f : ByteArray) (e : Int) : ByteArray × ByteArray × Int × Bool × Int :=
  if e ≠ 0 then (s, wt, fu, off, e) else if off = true then (s, wt, fu, off, 6) else if 1048576 < s.size + wt.size + f.size then (s, wt, fu, off, 5)
  else if 0 ≤ fu ∧ fu < (f.size : Int) then (s, wt ++ f.extract 0 fu.toNat, 0, true, 6) else (s, wt ++ f, if 0 ≤ fu then fu - (f.size : Int) else fu, off, 0)
def AppC (s wt : ByteArray) (fu : Int) (off : Bool) (rec : ByteArray) (w : World) (r : ByteArray × ByteArray × Int × Bool × Int) : Prop :=
  Calls Try.prog 37 #[.agg (PCs s wt fu off), .string rec] w fun E w' => E = .returned (.tuple #[.agg (PCs r.1 r.2.1 r.2.2.1 r.2.2.2.1), .int .i64 r.2.2.2.2]) ∧ Below w.heap.size w w'

def FrC (rec f : ByteArray) (e : Int) : Prop := ∀ W, Calls Try.prog 32 #[.string rec] W fun E w' => E = .returned (.tuple #[.string f, .int .i64 e]) ∧ Below W.heap.size W w'
/-- What stands once the frame was made. -/
theorem app_world (s wt : ByteArray) (fu : Int) (off : Bool) (w w1 : World) (hb : Below ((w.alloc (.cells (PCs s wt fu off) 60)).alloc (.cells (PCs ByteArray.empty ByteArray.empty 0 false) 60)).heap.size ((w.alloc (.cells (PCs s wt fu off) 60)).alloc (.cells (PCs ByteArray.empty ByteArray.empty 0 false) 60)) w1) :
    PBl w1 w.heap.size s wt fu off ∧ PBl w1 (w.heap.size + 1) ByteArray.empty ByteArray.empty 0 false ∧ Below w.heap.size w w1 := by
  have b1 := blk_alloc (blk_new w (.cells (PCs s wt fu off) 60)) (.cells (PCs ByteArray.empty ByteArray.empty 0 false) 60)
  have b2 := blk_new (w.alloc (.cells (PCs s wt fu off) 60)) (.cells (PCs ByteArray.empty ByteArray.empty 0 false) 60)
  rw [World.size_alloc] at b2
  exact ⟨blk_below b1 hb, blk_below b2 hb, (((Below.refl _ w).alloc (Nat.le_refl _) _).alloc (by simp) _).trans (hb.mono (by simp; omega))⟩

theorem res_app {W : World} {ob : Nat} {tmps : Array Value} {s wt : ByteArray} {fu : Int} {off : Bool} {e : Int} (h4 : tmps.getD 4 undef = .pointer (some ⟨ob, 0, none⟩)) (h5 : tmps.getD 5 undef = .int .i64 e) (ho : PBl W ob s wt fu off) :
    (results Try.f37 tmps).run Try.prog W = .ok (.tuple #[.agg (PCs s wt fu off), .int .i64 e]) W := by
  have o0 : W.cell? ⟨ob, 0, none⟩ = some (.string s) := blk_cell ho 0
  have o1 : W.cell? ⟨ob, 1, none⟩ = some (.string wt) := blk_cell ho 1
  have o2 : W.cell? ⟨ob, 2, none⟩ = some (.int .i64 fu) := blk_cell ho 2
  have o3 : W.cell? ⟨ob, 3, none⟩ = some (.bool off) := blk_cell ho 3
  rw [Array.getD_eq_getD_getElem?] at h4 h5
  simp [results, Try.results37, go_sem, h4, h5, o0, o1, o2, o3]
/-- The door: the closure stores the paper once more. -/
theorem app_door {w W : World} {pb ob : Nat} {tmps : Array Value} {s wt s' wt' : ByteArray} {fu fu' : Int} {off off' : Bool} {e : Int} (h4 : tmps.getD 4 undef = .pointer (some ⟨ob, 0, none⟩)) (h5 : tmps.getD 5 undef = .int .i64 e) (hne : pb ≠ ob) (hp : PBl W pb s wt fu off) (ho : PBl W ob s' wt' fu' off') (hB : Below w.heap.size w W) (hob : w.heap.size ≤ ob) :
    Leaves Try.prog Try.f37 tmps (fun E w' => E = .returned (.tuple #[.agg (PCs s wt fu off), .int .i64 e]) ∧ Below w.heap.size w w') [{ target := .fn (.func 60) #[.pointer (some ⟨pb, 0, none⟩), .pointer (some ⟨ob, 0, none⟩)], args := #[] }] .returning W := by
  refine leaves_cons (f := 60) (args := #[.pointer (some ⟨pb, 0, none⟩), .pointer (some ⟨ob, 0, none⟩)]) (by simp) (by simp [go_sem]) ?_
  refine (app1_d pb ob hne s wt s' wt' fu fu' off off' W hp ho).mono ?_
  rintro E u' w'' ⟨rfl, rfl, h1, h2⟩
  exact ⟨_, res_app h4 h5 h1, rfl, hB.trans (h2.mono hob)⟩

set_option maxRecDepth 100000 in
set_option maxHeartbeats 2000000 in
theorem append_e (s wt : ByteArray) (fu : Int) (off : Bool) (rec f : ByteArray) (e : Int) (hF : FrC rec f e) (he : e ≠ 0) (w : World) : AppC s wt fu off rec w (s, wt, fu, off, e) := by
  have HF := Lib.hid hF
  have g1 : (e == 0) = false := beq_eq_false_iff_ne.2 he
  have g2 : (e != 0) = true := bne_iff_ne.2 he
  clear he
  clear hF
  unfold AppC
  dsimp only
  have hmf : ∀ (fn : Fn) (first cap : Array Value) (w : World), (Instr.makeFunc fn first cap).run Try.prog w = .ok (.func fn first cap) w := fun _ _ _ _ => rfl
  go_enter_defers Try.func37, Try.ntmps37
  go_wp2_with fail
  refine (HF.out _).mono ?_
  rintro E w1 ⟨rfl, hb⟩
  obtain ⟨hp, ho, hB⟩ := app_world s wt fu off w w1 hb
  have p0 : w1.cell? ⟨w.heap.size, 0, none⟩ = some (.string s) := blk_cell hp 0
  have p1 : w1.cell? ⟨w.heap.size, 1, none⟩ = some (.string wt) := blk_cell hp 1
  have p2 : w1.cell? ⟨w.heap.size, 2, none⟩ = some (.int .i64 fu) := blk_cell hp 2
  have p3 : w1.cell? ⟨w.heap.size, 3, none⟩ = some (.bool off) := blk_cell hp 3
  have o0 : w1.cell? ⟨w.heap.size + 1, 0, none⟩ = some (.string ByteArray.empty) := blk_cell ho 0
  have o1 : w1.cell? ⟨w.heap.size + 1, 1, none⟩ = some (.string ByteArray.empty) := blk_cell ho 1
  have o2 : w1.cell? ⟨w.heap.size + 1, 2, none⟩ = some (.int .i64 0) := blk_cell ho 2
  have o3 : w1.cell? ⟨w.heap.size + 1, 3, none⟩ = some (.bool false) := blk_cell ho 3
  have f0 := blk_frozen ho 0
  have f1 := blk_frozen ho 1
  have f2 := blk_frozen ho 2
  have f3 := blk_frozen ho 3
  have q0 := blk_frozen hp 0
  have q1 := blk_frozen hp 1
  have q2 := blk_frozen hp 2
  have q3 := blk_frozen hp 3
  have HP := Lib.hid hp
  have HO := Lib.hid ho
  have HB := Lib.hid hB
  clear hp ho hB hb
  go_wp2
  exact ⟨_, res_app (ob := w.heap.size + 1) rfl rfl (blk_set (blk_set (blk_set (blk_set HO.out 0 _) 1 _) 2 _) 3 _), rfl, (below_set (below_set (below_set (below_set HB.out (Nat.le_succ _)) (Nat.le_succ _)) (Nat.le_succ _)) (Nat.le_succ _))⟩
set_option maxRecDepth 100000 in
set_option maxHeartbeats 2000000 in
theorem append_off (s wt : ByteArray) (fu : Int) (rec f : ByteArray) (e : Int) (hF : FrC rec f e) (he : e = 0) (w : World) : AppC s wt fu true rec w (s, wt, fu, true, 6) := by
  have HF := Lib.hid hF
  have g1 : (e == 0) = true := by rw [he]; rfl
  have g2 : (e != 0) = false := by rw [he]; rfl
  clear he
  clear hF
  unfold AppC
  dsimp only
  have hmf : ∀ (fn : Fn) (first cap : Array Value) (w : World), (Instr.makeFunc fn first cap).run Try.prog w = .ok (.func fn first cap) w := fun _ _ _ _ => rfl
  go_enter_defers Try.func37, Try.ntmps37
  go_wp2_with fail
  refine (HF.out _).mono ?_
  rintro E w1 ⟨rfl, hb⟩
  obtain ⟨hp, ho, hB⟩ := app_world s wt fu true w w1 hb
  have p0 : w1.cell? ⟨w.heap.size, 0, none⟩ = some (.string s) := blk_cell hp 0
  have p1 : w1.cell? ⟨w.heap.size, 1, none⟩ = some (.string wt) := blk_cell hp 1
  have p2 : w1.cell? ⟨w.heap.size, 2, none⟩ = some (.int .i64 fu) := blk_cell hp 2
  have p3 : w1.cell? ⟨w.heap.size, 3, none⟩ = some (.bool true) := blk_cell hp 3
  have o0 : w1.cell? ⟨w.heap.size + 1, 0, none⟩ = some (.string ByteArray.empty) := blk_cell ho 0
  have o1 : w1.cell? ⟨w.heap.size + 1, 1, none⟩ = some (.string ByteArray.empty) := blk_cell ho 1
  have o2 : w1.cell? ⟨w.heap.size + 1, 2, none⟩ = some (.int .i64 0) := blk_cell ho 2
  have o3 : w1.cell? ⟨w.heap.size + 1, 3, none⟩ = some (.bool false) := blk_cell ho 3
  have f0 := blk_frozen ho 0
  have f1 := blk_frozen ho 1
  have f2 := blk_frozen ho 2
  have f3 := blk_frozen ho 3
  have q0 := blk_frozen hp 0
  have q1 := blk_frozen hp 1
  have q2 := blk_frozen hp 2
  have q3 := blk_frozen hp 3
  have HP := Lib.hid hp
  have HO := Lib.hid ho
  have HB := Lib.hid hB
  clear hp ho hB hb
  go_wp2
  exact app_door (pb := w.heap.size) (ob := w.heap.size + 1) rfl rfl (by omega) (blk_far (blk_far (blk_far (blk_far HP.out (by simp) _) (by simp) _) (by simp) _) (by simp) _) (blk_set (blk_set (blk_set (blk_set HO.out 0 _) 1 _) 2 _) 3 _) (below_set (below_set (below_set (below_set HB.out (Nat.le_succ _)) (Nat.le_succ _)) (Nat.le_succ _)) (Nat.le_succ _)) (Nat.le_succ _)
set_option maxRecDepth 100000 in
set_option maxHeartbeats 2000000 in
theorem append_full (s wt : ByteArray) (fu : Int) (rec f : ByteArray) (e : Int) (hF : FrC rec f e) (he : e = 0) (h1 : s.size + wt.size ≤ 1000000000000000) (h2 : f.size ≤ 1000000000000000) (hl : 1048576 < s.size + wt.size + f.size) (w : World) : AppC s wt fu false rec w (s, wt, fu, false, 5) := by
  have HF := Lib.hid hF
  have g1 : (e == 0) = true := by rw [he]; rfl
  have g2 : (e != 0) = false := by rw [he]; rfl
  clear he
  have k1 : wrap64 (1048576 - (f.size : Int)) = 1048576 - (f.size : Int) := Go.IntWalk.wrap64_in _ (by omega)
  have k2 : wrap64 ((s.size : Int) + (wt.size : Int)) = (s.size : Int) + (wt.size : Int) := Go.IntWalk.wrap64_in _ (by omega)
  have k3 : (1048576 : Int) - (f.size : Int) < (s.size : Int) + (wt.size : Int) := by omega
  have k4 := decide_eq_true k3
  clear h1 h2 hl
  clear hF
  unfold AppC
  dsimp only
  have hmf : ∀ (fn : Fn) (first cap : Array Value) (w : World), (Instr.makeFunc fn first cap).run Try.prog w = .ok (.func fn first cap) w := fun _ _ _ _ => rfl
  go_enter_defers Try.func37, Try.ntmps37
  go_wp2_with fail
  refine (HF.out _).mono ?_
  rintro E w1 ⟨rfl, hb⟩
  obtain ⟨hp, ho, hB⟩ := app_world s wt fu false w w1 hb
  have p0 : w1.cell? ⟨w.heap.size, 0, none⟩ = some (.string s) := blk_cell hp 0
  have p1 : w1.cell? ⟨w.heap.size, 1, none⟩ = some (.string wt) := blk_cell hp 1
  have p2 : w1.cell? ⟨w.heap.size, 2, none⟩ = some (.int .i64 fu) := blk_cell hp 2
  have p3 : w1.cell? ⟨w.heap.size, 3, none⟩ = some (.bool false) := blk_cell hp 3
  have o0 : w1.cell? ⟨w.heap.size + 1, 0, none⟩ = some (.string ByteArray.empty) := blk_cell ho 0
  have o1 : w1.cell? ⟨w.heap.size + 1, 1, none⟩ = some (.string ByteArray.empty) := blk_cell ho 1
  have o2 : w1.cell? ⟨w.heap.size + 1, 2, none⟩ = some (.int .i64 0) := blk_cell ho 2
  have o3 : w1.cell? ⟨w.heap.size + 1, 3, none⟩ = some (.bool false) := blk_cell ho 3
  have f0 := blk_frozen ho 0
  have f1 := blk_frozen ho 1
  have f2 := blk_frozen ho 2
  have f3 := blk_frozen ho 3
  have q0 := blk_frozen hp 0
  have q1 := blk_frozen hp 1
  have q2 := blk_frozen hp 2
  have q3 := blk_frozen hp 3
  have HP := Lib.hid hp
  have HO := Lib.hid ho
  have HB := Lib.hid hB
  clear hp ho hB hb
  go_wp2
  exact app_door (pb := w.heap.size) (ob := w.heap.size + 1) rfl rfl (by omega) (blk_far (blk_far (blk_far (blk_far HP.out (by simp) _) (by simp) _) (by simp) _) (by simp) _) (blk_set (blk_set (blk_set (blk_set HO.out 0 _) 1 _) 2 _) 3 _) (below_set (below_set (below_set (below_set HB.out (Nat.le_succ _)) (Nat.le_succ _)) (Nat.le_succ _)) (Nat.le_succ _)) (Nat.le_succ _)
set_option maxRecDepth 100000 in
set_option maxHeartbeats 2000000 in
theorem append_fuse (s wt : ByteArray) (fu : Int) (rec f : ByteArray) (e : Int) (hF : FrC rec f e) (he : e = 0) (h1 : s.size + wt.size ≤ 1000000000000000) (h2 : f.size ≤ 1000000000000000) (hl : ¬ 1048576 < s.size + wt.size + f.size) (hf0 : 0 ≤ fu) (hf1 : fu < (f.size : Int)) (w : World) : AppC s wt fu false rec w (s, wt ++ f.extract 0 fu.toNat, 0, true, 6) := by
  have HF := Lib.hid hF
  have g1 : (e == 0) = true := by rw [he]; rfl
  have g2 : (e != 0) = false := by rw [he]; rfl
  clear he
  have k1 : wrap64 (1048576 - (f.size : Int)) = 1048576 - (f.size : Int) := Go.IntWalk.wrap64_in _ (by omega)
  have k2 : wrap64 ((s.size : Int) + (wt.size : Int)) = (s.size : Int) + (wt.size : Int) := Go.IntWalk.wrap64_in _ (by omega)
  have k3 : ¬ (1048576 : Int) - (f.size : Int) < (s.size : Int) + (wt.size : Int) := by omega
  have k4 := decide_eq_false k3
  have k5 := eq_true hf0
  have k6 := decide_eq_true hf0
  have k7 := decide_eq_true hf1
  have k8 := eq_true (show fu ≤ (f.size : Int) by omega)
  obtain ⟨x, hx⟩ : ∃ x, f.extract 0 fu.toNat = x := ⟨_, rfl⟩
  have k9 : wt.size + x.size ≤ 9223372036854775807 := by rw [← hx, ByteArray.size_extract]; omega
  rw [hx]
  have k9b := eq_false (Nat.not_lt.2 k9)
  have k9c := decide_eq_true k9
  clear h1 h2 hl
  clear hF
  unfold AppC
  dsimp only
  have hmf : ∀ (fn : Fn) (first cap : Array Value) (w : World), (Instr.makeFunc fn first cap).run Try.prog w = .ok (.func fn first cap) w := fun _ _ _ _ => rfl
  go_enter_defers Try.func37, Try.ntmps37
  go_wp2_with fail
  refine (HF.out _).mono ?_
  rintro E w1 ⟨rfl, hb⟩
  obtain ⟨hp, ho, hB⟩ := app_world s wt fu false w w1 hb
  have p0 : w1.cell? ⟨w.heap.size, 0, none⟩ = some (.string s) := blk_cell hp 0
  have p1 : w1.cell? ⟨w.heap.size, 1, none⟩ = some (.string wt) := blk_cell hp 1
  have p2 : w1.cell? ⟨w.heap.size, 2, none⟩ = some (.int .i64 fu) := blk_cell hp 2
  have p3 : w1.cell? ⟨w.heap.size, 3, none⟩ = some (.bool false) := blk_cell hp 3
  have o0 : w1.cell? ⟨w.heap.size + 1, 0, none⟩ = some (.string ByteArray.empty) := blk_cell ho 0
  have o1 : w1.cell? ⟨w.heap.size + 1, 1, none⟩ = some (.string ByteArray.empty) := blk_cell ho 1
  have o2 : w1.cell? ⟨w.heap.size + 1, 2, none⟩ = some (.int .i64 0) := blk_cell ho 2
  have o3 : w1.cell? ⟨w.heap.size + 1, 3, none⟩ = some (.bool false) := blk_cell ho 3
  have f0 := blk_frozen ho 0
  have f1 := blk_frozen ho 1
  have f2 := blk_frozen ho 2
  have f3 := blk_frozen ho 3
  have q0 := blk_frozen hp 0
  have q1 := blk_frozen hp 1
  have q2 := blk_frozen hp 2
  have q3 := blk_frozen hp 3
  have HP := Lib.hid hp
  have HO := Lib.hid ho
  have HB := Lib.hid hB
  clear hp ho hB hb
  go_wp2
  go_still_tail 8, (by kernel_rfl)
  change wpList _ _ _ _ _ w1.drew
  have hp : PBl w1.drew w.heap.size s wt fu false := HP.out
  have ho : PBl w1.drew (w.heap.size + 1) ByteArray.empty ByteArray.empty 0 false := HO.out
  have hB : Below w.heap.size w w1.drew := below_drew1 HB.out
  clear p0 p1 p2 p3 o0 o1 o2 o3 f0 f1 f2 f3 q0 q1 q2 q3 HP HO HB
  generalize w1.drew = w2 at hp ho hB ⊢
  have p0 : w2.cell? ⟨w.heap.size, 0, none⟩ = some (.string s) := blk_cell hp 0
  have p1 : w2.cell? ⟨w.heap.size, 1, none⟩ = some (.string wt) := blk_cell hp 1
  have p2 : w2.cell? ⟨w.heap.size, 2, none⟩ = some (.int .i64 fu) := blk_cell hp 2
  have p3 : w2.cell? ⟨w.heap.size, 3, none⟩ = some (.bool false) := blk_cell hp 3
  have o0 : w2.cell? ⟨w.heap.size + 1, 0, none⟩ = some (.string ByteArray.empty) := blk_cell ho 0
  have o1 : w2.cell? ⟨w.heap.size + 1, 1, none⟩ = some (.string ByteArray.empty) := blk_cell ho 1
  have o2 : w2.cell? ⟨w.heap.size + 1, 2, none⟩ = some (.int .i64 0) := blk_cell ho 2
  have o3 : w2.cell? ⟨w.heap.size + 1, 3, none⟩ = some (.bool false) := blk_cell ho 3
  have f0 := blk_frozen ho 0
  have f1 := blk_frozen ho 1
  have f2 := blk_frozen ho 2
  have f3 := blk_frozen ho 3
  have q0 := blk_frozen hp 0
  have q1 := blk_frozen hp 1
  have q2 := blk_frozen hp 2
  have q3 := blk_frozen hp 3
  have HP := Lib.hid hp
  have HO := Lib.hid ho
  have HB := Lib.hid hB
  clear hp ho hB
  go_wp2
  exact app_door (pb := w.heap.size) (ob := w.heap.size + 1) rfl rfl (by omega) (blk_far (blk_far (blk_far (blk_far (blk_set (blk_set (blk_set HP.out 1 _) 2 _) 3 _) (by simp) _) (by simp) _) (by simp) _) (by simp) _) (blk_set (blk_set (blk_set (blk_set (blk_far (blk_far (blk_far HO.out (by simp) _) (by simp) _) (by simp) _) 0 _) 1 _) 2 _) 3 _) (below_set (below_set (below_set (below_set (below_set (below_set (below_set HB.out (Nat.le_refl _)) (Nat.le_refl _)) (Nat.le_refl _)) (Nat.le_succ _)) (Nat.le_succ _)) (Nat.le_succ _)) (Nat.le_succ _)) (Nat.le_succ _)
set_option maxRecDepth 100000 in
set_option maxHeartbeats 2000000 in
theorem append_ok (s wt : ByteArray) (fu : Int) (rec f : ByteArray) (e : Int) (hF : FrC rec f e) (he : e = 0) (h1 : s.size + wt.size ≤ 1000000000000000) (h2 : f.size ≤ 1000000000000000) (hl : ¬ 1048576 < s.size + wt.size + f.size) (hf0 : 0 ≤ fu) (hfm : fu ≤ 9223372036854775807) (hf1 : ¬ fu < (f.size : Int)) (w : World) : AppC s wt fu false rec w (s, wt ++ f, fu - (f.size : Int), false, 0) := by
  have HF := Lib.hid hF
  have g1 : (e == 0) = true := by rw [he]; rfl
  have g2 : (e != 0) = false := by rw [he]; rfl
  clear he
  have k1 : wrap64 (1048576 - (f.size : Int)) = 1048576 - (f.size : Int) := Go.IntWalk.wrap64_in _ (by omega)
  have k2 : wrap64 ((s.size : Int) + (wt.size : Int)) = (s.size : Int) + (wt.size : Int) := Go.IntWalk.wrap64_in _ (by omega)
  have k3 : ¬ (1048576 : Int) - (f.size : Int) < (s.size : Int) + (wt.size : Int) := by omega
  have k4 := decide_eq_false k3
  have k5 := eq_true hf0
  have k6 := decide_eq_true hf0
  have k7 := decide_eq_false hf1
  have k9 : wt.size + f.size ≤ 9223372036854775807 := by omega
  have k10 : wrap64 (fu - (f.size : Int)) = fu - (f.size : Int) := Go.IntWalk.wrap64_in _ (by omega)
  clear h1 h2 hl hf1
  clear hF
  unfold AppC
  dsimp only
  have hmf : ∀ (fn : Fn) (first cap : Array Value) (w : World), (Instr.makeFunc fn first cap).run Try.prog w = .ok (.func fn first cap) w := fun _ _ _ _ => rfl
  go_enter_defers Try.func37, Try.ntmps37
  go_wp2_with fail
  refine (HF.out _).mono ?_
  rintro E w1 ⟨rfl, hb⟩
  obtain ⟨hp, ho, hB⟩ := app_world s wt fu false w w1 hb
  have p0 : w1.cell? ⟨w.heap.size, 0, none⟩ = some (.string s) := blk_cell hp 0
  have p1 : w1.cell? ⟨w.heap.size, 1, none⟩ = some (.string wt) := blk_cell hp 1
  have p2 : w1.cell? ⟨w.heap.size, 2, none⟩ = some (.int .i64 fu) := blk_cell hp 2
  have p3 : w1.cell? ⟨w.heap.size, 3, none⟩ = some (.bool false) := blk_cell hp 3
  have o0 : w1.cell? ⟨w.heap.size + 1, 0, none⟩ = some (.string ByteArray.empty) := blk_cell ho 0
  have o1 : w1.cell? ⟨w.heap.size + 1, 1, none⟩ = some (.string ByteArray.empty) := blk_cell ho 1
  have o2 : w1.cell? ⟨w.heap.size + 1, 2, none⟩ = some (.int .i64 0) := blk_cell ho 2
  have o3 : w1.cell? ⟨w.heap.size + 1, 3, none⟩ = some (.bool false) := blk_cell ho 3
  have f0 := blk_frozen ho 0
  have f1 := blk_frozen ho 1
  have f2 := blk_frozen ho 2
  have f3 := blk_frozen ho 3
  have q0 := blk_frozen hp 0
  have q1 := blk_frozen hp 1
  have q2 := blk_frozen hp 2
  have q3 := blk_frozen hp 3
  have HP := Lib.hid hp
  have HO := Lib.hid ho
  have HB := Lib.hid hB
  clear hp ho hB hb
  go_wp2
  exact app_door (pb := w.heap.size) (ob := w.heap.size + 1) rfl rfl (by omega) (blk_far (blk_far (blk_far (blk_far (blk_set (blk_set HP.out 1 _) 2 _) (by simp) _) (by simp) _) (by simp) _) (by simp) _) (blk_set (blk_set (blk_set (blk_set (blk_far (blk_far HO.out (by simp) _) (by simp) _) 0 _) 1 _) 2 _) 3 _) (below_set (below_set (below_set (below_set (below_set (below_set HB.out (Nat.le_refl _)) (Nat.le_refl _)) (Nat.le_succ _)) (Nat.le_succ _)) (Nat.le_succ _)) (Nat.le_succ _)) (Nat.le_succ _)
set_option maxRecDepth 100000 in
set_option maxHeartbeats 2000000 in
theorem append_any (s wt : ByteArray) (fu : Int) (rec f : ByteArray) (e : Int) (hF : FrC rec f e) (he : e = 0) (h1 : s.size + wt.size ≤ 1000000000000000) (h2 : f.size ≤ 1000000000000000) (hl : ¬ 1048576 < s.size + wt.size + f.size) (hf0 : ¬ 0 ≤ fu) (w : World) : AppC s wt fu false rec w (s, wt ++ f, fu, false, 0) := by
  have HF := Lib.hid hF
  have g1 : (e == 0) = true := by rw [he]; rfl
  have g2 : (e != 0) = false := by rw [he]; rfl
  clear he
  have k1 : wrap64 (1048576 - (f.size : Int)) = 1048576 - (f.size : Int) := Go.IntWalk.wrap64_in _ (by omega)
  have k2 : wrap64 ((s.size : Int) + (wt.size : Int)) = (s.size : Int) + (wt.size : Int) := Go.IntWalk.wrap64_in _ (by omega)
  have k3 : ¬ (1048576 : Int) - (f.size : Int) < (s.size : Int) + (wt.size : Int) := by omega
  have k4 := decide_eq_false k3
  have k5 := eq_false hf0
  have k6 := decide_eq_false hf0
  have k9 : wt.size + f.size ≤ 9223372036854775807 := by omega
  clear h1 h2 hl
  clear hF
  unfold AppC
  dsimp only
  have hmf : ∀ (fn : Fn) (first cap : Array Value) (w : World), (Instr.makeFunc fn first cap).run Try.prog w = .ok (.func fn first cap) w := fun _ _ _ _ => rfl
  go_enter_defers Try.func37, Try.ntmps37
  go_wp2_with fail
  refine (HF.out _).mono ?_
  rintro E w1 ⟨rfl, hb⟩
  obtain ⟨hp, ho, hB⟩ := app_world s wt fu false w w1 hb
  have p0 : w1.cell? ⟨w.heap.size, 0, none⟩ = some (.string s) := blk_cell hp 0
  have p1 : w1.cell? ⟨w.heap.size, 1, none⟩ = some (.string wt) := blk_cell hp 1
  have p2 : w1.cell? ⟨w.heap.size, 2, none⟩ = some (.int .i64 fu) := blk_cell hp 2
  have p3 : w1.cell? ⟨w.heap.size, 3, none⟩ = some (.bool false) := blk_cell hp 3
  have o0 : w1.cell? ⟨w.heap.size + 1, 0, none⟩ = some (.string ByteArray.empty) := blk_cell ho 0
  have o1 : w1.cell? ⟨w.heap.size + 1, 1, none⟩ = some (.string ByteArray.empty) := blk_cell ho 1
  have o2 : w1.cell? ⟨w.heap.size + 1, 2, none⟩ = some (.int .i64 0) := blk_cell ho 2
  have o3 : w1.cell? ⟨w.heap.size + 1, 3, none⟩ = some (.bool false) := blk_cell ho 3
  have f0 := blk_frozen ho 0
  have f1 := blk_frozen ho 1
  have f2 := blk_frozen ho 2
  have f3 := blk_frozen ho 3
  have q0 := blk_frozen hp 0
  have q1 := blk_frozen hp 1
  have q2 := blk_frozen hp 2
  have q3 := blk_frozen hp 3
  have HP := Lib.hid hp
  have HO := Lib.hid ho
  have HB := Lib.hid hB
  clear hp ho hB hb
  go_wp2
  exact app_door (pb := w.heap.size) (ob := w.heap.size + 1) rfl rfl (by omega) (blk_far (blk_far (blk_far (blk_far (blk_set HP.out 1 _) (by simp) _) (by simp) _) (by simp) _) (by simp) _) (blk_set (blk_set (blk_set (blk_set (blk_far HO.out (by simp) _) 0 _) 1 _) 2 _) 3 _) (below_set (below_set (below_set (below_set (below_set HB.out (Nat.le_refl _)) (Nat.le_succ _)) (Nat.le_succ _)) (Nat.le_succ _)) (Nat.le_succ _)) (Nat.le_succ _)

theorem append_c (s wt : ByteArray) (fu : Int) (off : Bool) (rec f : ByteArray) (e : Int) (hF : FrC rec f e) (h1 : s.size + wt.size ≤ 1000000000000000) (h2 : f.size ≤ 1000000000000000) (hfm : fu ≤ 9223372036854775807) (w : World) :
    AppC s wt fu off rec w (appB s wt fu off f e) := by
  unfold appB
  by_cases he : e = 0
  · rw [if_neg (by simpa using he)]
    cases off with
    | true => rw [if_pos rfl]; exact append_off s wt fu rec f e hF he w
    | false =>
      rw [if_neg (by simp)]
      by_cases hl : 1048576 < s.size + wt.size + f.size
      · rw [if_pos hl]; exact append_full s wt fu rec f e hF he h1 h2 hl w
      · rw [if_neg hl]
        by_cases h0 : 0 ≤ fu
        · by_cases hf : fu < (f.size : Int)
          · rw [if_pos ⟨h0, hf⟩]; exact append_fuse s wt fu rec f e hF he h1 h2 hl h0 hf w
          · rw [if_neg (fun h => hf h.2), if_pos h0]; exact append_ok s wt fu rec f e hF he h1 h2 hl h0 hfm hf w
        · rw [if_neg (fun h => h0 h.1), if_neg h0]; exact append_any s wt fu rec f e hF he h1 h2 hl h0 w
  · rw [if_pos he]; exact append_e s wt fu off rec f e hF he w
end Go.Proofs.Ytiknkkkfkifahaa.Sa
