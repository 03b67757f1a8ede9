import Derived.Test.YtokkkeepifpbpaaIx
/-
  share.Of walked: a seat's share. By an AI agent.
-/
namespace Go.Proofs.Ytokkkeepifpbpaa.Fl
open Flt
open Go.RowKit Go.Proofs.YtokkkeepifpbpaaW.PrintWords Go.Proofs.YtokkkeepifpbpaaW.PrintLast Go.Proofs.YtokkkeepifpbpaaW.PrintMore
set_option linter.unusedVariables false
set_option linter.unusedSimpArgs false

/-- may all coefficients be? -/
def oddE (l : List Gm.E) : Bool := decide (0 ≤ ix (fun i => (fun x : Gm.E => !mayB x.1 x.2) (l.getD i (0, 0))) l.length)
def evE (l : List Gm.E) (x : Gm.E) : Gm.E := evFrom l x l.length (0, 0)
def ofE (l : List Gm.E) (id : Int) : (Int × Gm.E) × Int := if id < 1 then ((0, (0, 0)), 1) else if id > 64 then ((0, (0, 0)), 1) else if oddE l = true then ((0, (0, 0)), 1) else ((id, evE l (id, 0)), 0)

theorem rowE_below {W W' : World} {A : Option Addr} {l : List Gm.E} (h : RowE W A l) (hb : Below W.heap.size W W') : RowE W' A l := by
  intro i hi
  obtain ⟨ad, e, h0, h1⟩ := h i hi
  exact ⟨ad, e, (hb.cell (World.block_lt_of_cell? W _ h0)).trans h0, (hb.cell (World.block_lt_of_cell? W _ h1)).trans h1⟩
theorem enters_c {g : Nat} {fn : Func} (hf : Try.prog.funcs[g]? = some fn) (hname : (fn.name == "runtime.NumGoroutine") = false) (hb : fn.body.isSome = true) : ∀ args w, (callFunc g args).run Try.prog w = .ok (.enter g args) w := fun args w => enters_ hf hname hb args w

set_option maxHeartbeats 8000000 in
set_option maxRecDepth 100000 in
theorem of_c (A : Option Addr) (c : Nat) (l : List Gm.E) (id : Int) (w : World) (hr : RowE w A l) (hlen : l.length ≤ 9223372036854775807) :
    Calls Try.prog 39 #[.slice A l.length c, .int .i64 id] w fun e w' => e = .returned (.tuple #[.agg #[.int .i64 (ofE l id).1.1, .int .i64 (ofE l id).1.2.1, .int .i64 (ofE l id).1.2.2], .int .i64 (ofE l id).2]) ∧ Below w.heap.size w w' := by
  by_cases h1 : id < 1
  · have d1 : decide (id < 1) = true := decide_eq_true h1
    have e : ofE l id = ((0, (0, 0)), 1) := by unfold ofE; rw [if_pos h1]
    rw [e]
    clear e hr hlen h1
    go_enter Try.func39, Try.ntmps39
    go_wp2
    refine bodyPost_ret (v := .tuple #[.agg #[.int .i64 0, .int .i64 0, .int .i64 0], .int .i64 1]) ?_ rfl ⟨rfl, ?_⟩
    · simp [results, Try.results39, go_sem]
    · exact ((Below.refl _ _).alloc (Nat.le_refl _) _)
  · have d1 : decide (id < 1) = false := decide_eq_false h1
    by_cases h2 : id > 64
    · have d2 : decide (id > 64) = true := decide_eq_true h2
      have e : ofE l id = ((0, (0, 0)), 1) := by unfold ofE; rw [if_neg h1, if_pos h2]
      rw [e]
      clear e hr hlen h1 h2
      go_enter Try.func39, Try.ntmps39
      go_wp2
      refine bodyPost_ret (v := .tuple #[.agg #[.int .i64 0, .int .i64 0, .int .i64 0], .int .i64 1]) ?_ rfl ⟨rfl, ?_⟩
      · simp [results, Try.results39, go_sem]
      · exact ((Below.refl _ _).alloc (Nat.le_refl _) _)
    · have d2 : decide (id > 64) = false := decide_eq_false h2
      have B0 : Below w.heap.size w (w.alloc (.cells #[.int .i64 0, .int .i64 0, .int .i64 0] 43)) := (Below.refl _ _).alloc (Nat.le_refl _) _
      have hr0 : RowE (w.alloc (.cells #[.int .i64 0, .int .i64 0, .int .i64 0] 43)) A l := rowE_below hr B0
      have HC := Lib.hid (contains_elem A c l 56 (fun x => !mayB x.1 x.2) _ hr0 hlen (enters_c Try.func56 rfl rfl) (fun W x => of_odd x.1 x.2 W))
      have R0 : (w.alloc (.cells #[.int .i64 0, .int .i64 0, .int .i64 0] 43)).heap[w.heap.size]? = some (.cells #[.int .i64 0, .int .i64 0, .int .i64 0] 43 (0, 0)) := new_ _ _ rfl
      have HB0 := Lib.hid B0
      have HR0 := Lib.hid R0
      by_cases h3 : oddE l = true
      · have e : ofE l id = ((0, (0, 0)), 1) := by unfold ofE; rw [if_neg h1, if_neg h2, if_pos h3]
        rw [e]
        unfold oddE at h3
        rw [h3] at HC
        clear e h1 h2 h3 hr hr0 hlen B0 R0
        go_enter Try.func39, Try.ntmps39
        go_wp2_with fail
        refine HC.out.mono ?_
        rintro e w1 ⟨rfl, hb⟩
        have R1 := blk_below HR0.out hb
        have r1 : w1.cell? ⟨w.heap.size, 0, none⟩ = some (.int .i64 0) := (blk_cell R1 0).trans rfl
        have r2 : w1.cell? ⟨w.heap.size, 1, none⟩ = some (.int .i64 0) := (blk_cell R1 1).trans rfl
        have r3 : w1.cell? ⟨w.heap.size, 2, none⟩ = some (.int .i64 0) := (blk_cell R1 2).trans rfl
        have f1 := blk_frozen R1 0
        have f2 := blk_frozen R1 1
        have f3 := blk_frozen R1 2
        have HB1 := Lib.hid (HB0.out.trans (hb.mono HB0.out.size))
        clear hb R1
        go_wp2
        refine bodyPost_ret (v := .tuple #[.agg #[.int .i64 0, .int .i64 0, .int .i64 0], .int .i64 1]) ?_ rfl ⟨rfl, ?_⟩
        · simp [results, Try.results39, go_sem, r1, r2, r3]
        · exact below_set (below_set (below_set HB1.out (Nat.le_refl _)) (Nat.le_refl _)) (Nat.le_refl _)
      · have e : ofE l id = ((id, evE l (id, 0)), 0) := by unfold ofE; rw [if_neg h1, if_neg h2, if_neg h3]
        rw [e]
        have h3' : oddE l = false := by simpa using h3
        unfold oddE at h3'
        rw [h3'] at HC
        have HR := Lib.hid hr
        have HL := Lib.hid hlen
        clear e h1 h2 h3 h3' hr hr0 hlen B0 R0
        go_enter Try.func39, Try.ntmps39
        go_wp2_with fail
        refine HC.out.mono ?_
        rintro e w1 ⟨rfl, hb⟩
        have HB1 := Lib.hid (HB0.out.trans (hb.mono HB0.out.size))
        have R1 := Lib.hid (blk_below HR0.out hb)
        clear hb
        go_wp2_with fail
        refine (eval_c A c l (id, 0) w1 (rowE_below HR.out HB1.out) HL.out).mono ?_
        rintro e w2 ⟨rfl, hb⟩
        have R2 := blk_below R1.out hb
        have r1 : w2.cell? ⟨w.heap.size, 0, none⟩ = some (.int .i64 0) := (blk_cell R2 0).trans rfl
        have r2 : w2.cell? ⟨w.heap.size, 1, none⟩ = some (.int .i64 0) := (blk_cell R2 1).trans rfl
        have r3 : w2.cell? ⟨w.heap.size, 2, none⟩ = some (.int .i64 0) := (blk_cell R2 2).trans rfl
        have f1 := blk_frozen R2 0
        have f2 := blk_frozen R2 1
        have f3 := blk_frozen R2 2
        have HB2 := Lib.hid (HB1.out.trans (hb.mono HB1.out.size))
        clear hb R2
        go_wp2
        refine bodyPost_ret (v := .tuple #[.agg #[.int .i64 id, .int .i64 (evE l (id, 0)).1, .int .i64 (evE l (id, 0)).2], .int .i64 0]) ?_ rfl ⟨rfl, ?_⟩
        · simp [results, Try.results39, go_sem, r1, r2, r3, evE]
        · exact below_set (below_set (below_set HB2.out (Nat.le_refl _)) (Nat.le_refl _)) (Nat.le_refl _)
end Go.Proofs.Ytokkkeepifpbpaa.Fl
