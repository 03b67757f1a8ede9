import Derived.Test.YtokkkeepifpbpaaFp
import Derived.Test.YtokkkeepifpbpaaWWords
import Derived.Test.YtokkkeepifpbpaaWLast
import Derived.Test.YtokkkeepifpbpaaWTab
import Derived.Test.YtokkkeepifpbpaaWFour
import Derived.Test.YtokkkeepifpbpaaWQPut
import Derived.Test.YtokkkeepifpbpaaWApart
import Derived.Test.YtokkkeepifpbpaaWArr
import Derived.Test.YtokkkeepifpbpaaWZeros
import Derived.Test.YtokkkeepifpbpaaWFoot
import Derived.Test.YtokkkeepifpbpaaWKept
import Derived.Test.YtokkkeepifpbpaaWShare
import Derived.Test.YtokkkeepifpbpaaWN
import Derived.Test.YtokkkeepifpbpaaWFootNe
import Derived.Test.YtokkkeepifpbpaaWAt
import Derived.Test.YtokkkeepifpbpaaWEqStruct
import Derived.Test.YtokkkeepifpbpaaWRepsOne
import Derived.Test.YtokkkeepifpbpaaWGuard
import Derived.Test.YtokkkeepifpbpaaWNEv
import Derived.Test.YtokkkeepifpbpaaWMore
/-
  share.Eval walked: a polynomial's value, from the last coefficient on. By an AI agent.
-/
namespace Go.Proofs.Ytokkkeepifpbpaa.Fl
open Flt
open Go.RowKit Go.Proofs.YtokkkeepifpbpaaW.PrintWords Go.Proofs.YtokkkeepifpbpaaW.PrintLast Go.Proofs.YtokkkeepifpbpaaW.PrintMore
set_option linter.unusedVariables false
set_option linter.unusedSimpArgs false

/-- what is made of o by the coefficients below i -/
def evFrom (l : List Gm.E) (x : Gm.E) : Nat → Gm.E → Gm.E
  | 0, o => o
  | i + 1, o => evFrom l x i (opE Gm.add (opE Gm.mul o x) (l.getD i (0, 0)))
/-- a row of elements in memory -/
def RowE (W : World) (A : Option Addr) (l : List Gm.E) : Prop := ∀ i : Nat, i < l.length → ∃ ad, A = some ad ∧ W.cell? (ad.add (i * 2)) = some (.int .i64 (l.getD i (0, 0)).1) ∧ W.cell? ⟨(ad.add (i * 2)).block, (ad.add (i * 2)).off + 1, none⟩ = some (.int .i64 (l.getD i (0, 0)).2)

theorem new_ (w : World) (o : Obj) {n : Nat} (h : w.heap.size = n) : (w.alloc o).heap[n]? = some o := by
  subst h
  exact blk_new w o
structure EvW (w0 : World) (l : List Gm.E) (x : Gm.E) (i : Nat) (o : Gm.E) (W : World) : Prop where
  bx : W.heap[w0.heap.size]? = some (.cells #[.int .i64 x.1, .int .i64 x.2] 23 (0, 0))
  br : W.heap[w0.heap.size + 1]? = some (.cells #[.int .i64 0, .int .i64 0] 23 (0, 0))
  bo : W.heap[w0.heap.size + 2]? = some (.cells #[.int .i64 o.1, .int .i64 o.2] 23 (0, 0))
  hi : i ≤ l.length
  fin : evFrom l x i o = evFrom l x l.length (0, 0)
  hb : Below w0.heap.size w0 W
def evT : Bool × List (List Nat × List Nat) := (true, [([], []), ([], []), ([0, 1], [0, 1]), ([], []), ([], []), ([3, 4], [3, 4]), ([5], [5]), ([2, 6, 2], [2, 6]), ([7, 7, 0, 1, 2, 3, 4, 5, 6, 7], [7])])
def evB : List Nat := [0, 0, 3, 0, 0, 24, 56, 127, 255]
theorem evTab : rtab .any (opsOf Try.f41 5) = evT := by kernel_rfl
theorem evBits : waitsOk evT.2 evB = true := by kernel_rfl

set_option maxHeartbeats 8000000 in
set_option maxRecDepth 100000 in
theorem eval_c (A : Option Addr) (c : Nat) (l : List Gm.E) (x : Gm.E) (w : World) (hr : RowE w A l) (hlen : l.length ≤ 9223372036854775807) :
    Calls Try.prog 41 #[.slice A l.length c, .agg #[.int .i64 x.1, .int .i64 x.2]] w fun e w' => e = .returned (.agg #[.int .i64 (evFrom l x l.length (0, 0)).1, .int .i64 (evFrom l x l.length (0, 0)).2]) ∧ Below w.heap.size w w' := by
  have HR0 := Lib.hid hr
  have HL := Lib.hid hlen
  clear hr hlen
  go_enter Try.func41, Try.ntmps41
  go_wp2_with fail
  refine wp_label_jumps 0 (fun a' w' => ∃ (i : Nat) (o : Gm.E) (u7 u8 u9 u10 u11 u12 u13 u14 u15 u16 u17 u18 u19 u20 u21 u22 : Value),
    a' = { tmps := #[.slice A l.length c, .agg #[.int .i64 x.1, .int .i64 x.2], undef, .pointer (some ⟨w.heap.size, 0, none⟩), .pointer (some ⟨w.heap.size + 1, 0, none⟩), .pointer (some ⟨w.heap.size + 2, 0, none⟩), .int .i64 i, u7, u8, u9, u10, u11, u12, u13, u14, u15, u16, u17, u18, u19, u20, u21, u22], defers := [] } ∧ EvW w l x i o w')
    (fun a' _ => (intOf (a'.tmps.getD 6 undef)).toNat) rfl ?pass ?first
  case first =>
    intro hrest
    go_wp2_with fail
    go_step3
    simp only [Exit.then]
    refine (by assumption : ∀ (a : Act) (w : World), Code.wp Try.prog _ _ a w → _ ) _ _ (hrest _ _ ?_)
    clear hrest
    refine ⟨l.length, (0, 0), _, _, _, _, _, _, _, _, _, _, _, _, _, _, _, _, rfl, ?_, ?_, ?_, Nat.le_refl _, rfl, ?_⟩
    · exact blk_alloc (blk_alloc (new_ _ _ rfl) _) _
    · exact blk_alloc (new_ _ _ (by simp)) _
    · exact new_ _ _ (by simp)
    · exact (((Below.refl _ _).alloc (Nat.le_refl _) _).alloc (by simp) _).alloc (by simp; omega) _
  case pass =>
    rintro a' w' ⟨i, o, u7, u8, u9, u10, u11, u12, u13, u14, u15, u16, u17, u18, u19, u20, u21, u22, rfl, H⟩
    obtain ⟨BK142, BK143, BK144, hi, fin, HB⟩ := H
    cases i with
    | zero =>
      have r1 : w'.cell? ⟨w.heap.size + 1, 0, none⟩ = some (.int .i64 0) := (blk_cell BK143 0).trans rfl
      have r2 : w'.cell? ⟨w.heap.size + 1, 1, none⟩ = some (.int .i64 0) := (blk_cell BK143 1).trans rfl
      have r3 := blk_frozen BK143 0
      have r4 := blk_frozen BK143 1
      have o1 : w'.cell? ⟨w.heap.size + 2, 0, none⟩ = some (.int .i64 o.1) := (blk_cell BK144 0).trans rfl
      have o2 : w'.cell? ⟨w.heap.size + 2, 1, none⟩ = some (.int .i64 o.2) := (blk_cell BK144 1).trans rfl
      have HF := Lib.hid fin
      have HB' := Lib.hid ((HB.setCell (p := ⟨w.heap.size + 1, 0, none⟩) (by simp) (.int .i64 o.1)).setCell (p := ⟨w.heap.size + 1, 1, none⟩) (by simp) (.int .i64 o.2))
      clear fin HB BK142 BK143 BK144 hi
      go_wp2
      simp only [Exit.jump]
      refine bodyPost_ret (v := .agg #[.int .i64 o.1, .int .i64 o.2]) ?_ rfl ⟨?_, HB'.out⟩
      · simp [results, Try.results41, go_sem, r1, r2]
      · rw [← HF.out]; rfl
    | succ j =>
      have c9 : (((j + 1 : Nat) : Int) == 0) = false := by rw [beq_eq_false_iff_ne]; omega
      have hw : wrap64 (j : Int) = (j : Int) := by have := HL.out; exact Go.IntWalk.wrap64_in _ (by omega)
      go_wp2_with fail
      rw [hw]
      have HF := Lib.hid fin
      have HI := Lib.hid hi
      have BK142 := Aside0.mk (blk_drew BK142)
      have BK143 := Aside0.mk (blk_drew BK143)
      have BK144 := Aside0.mk (blk_drew BK144)
      have HB := Aside0.mk (below_drew1 HB)
      have GE142 := Aside0.mk (Nat.le_refl w.heap.size)
      have GE143 := Aside0.mk (show w.heap.size ≤ w.heap.size + 1 by omega)
      have GE144 := Aside0.mk (show w.heap.size ≤ w.heap.size + 2 by omega)
      have NB142_144 := Aside0.mk (show w.heap.size ≠ w.heap.size + 2 by omega)
      have NB143_144 := Aside0.mk (show w.heap.size + 1 ≠ w.heap.size + 2 by omega)
      have NB144_142 := Aside0.mk (show w.heap.size + 2 ≠ w.heap.size by omega)
      have NB144_143 := Aside0.mk (show w.heap.size + 2 ≠ w.heap.size + 1 by omega)
      have p147 : 0 ≤ (j : Int) := by omega
      have q147 : (j : Int) < (l.length : Int) := by omega
      obtain ⟨ad147, e147, hx147_0, hx147_1⟩ := HR0.out j (by omega)
      have hw147_1 := hx147_1
      have hw147_0 := hx147_0
      cases e147
      replace hx147_0 := (HB.out.cell (World.block_lt_of_cell? w _ hx147_0)).trans hx147_0
      replace hx147_1 := (HB.out.cell (World.block_lt_of_cell? w _ hx147_1)).trans hx147_1
      replace p147 := eq_true p147
      replace q147 := eq_true q147
      have tn : ((j : Int)).toNat = j := Int.toNat_natCast j
      clear fin hi c9 hw
      refine start_ (n := 9) (S := fun w' => w'.cell? ⟨(w.heap.size + 2), 0, none⟩ = some (.int .i64 o.1) ∧ w'.cell? ⟨(w.heap.size + 2), 1, none⟩ = some (.int .i64 o.2) ∧ w'.cell? ⟨(w.heap.size), 0, none⟩ = some (.int .i64 x.1) ∧ w'.cell? ⟨(w.heap.size), 1, none⟩ = some (.int .i64 x.2) ∧ w'.cell? (ad147.add (j * 2)) = some (.int .i64 ((l.getD j (0, 0)).1)) ∧ w'.cell? ⟨(ad147.add (j * 2)).block, (ad147.add (j * 2)).off + 1, none⟩ = some (.int .i64 ((l.getD j (0, 0)).2))) (ds := [8]) #[false, false, false, false, false, false, false, false, false] (by kernel_rfl) rfl rfl ⟨(blk_cell BK144.out 0).trans rfl, (blk_cell BK144.out 1).trans rfl, (blk_cell BK142.out 0).trans rfl, (blk_cell BK142.out 1).trans rfl, ((HB.out.cell (World.block_lt_of_cell? w _ hw147_0)).trans hw147_0), ((HB.out.cell (World.block_lt_of_cell? w _ hw147_1)).trans hw147_1)⟩ (fun hHeld => ?_); refine with_tabW evTab evBits (fun HT_ HW_ => ?_)
      generalize w'.drew = w14 at BK142 BK143 BK144 HB hx147_0 hx147_1 hHeld ⊢
      refine pure_ (i := 3) (N := some 18) (v := ?_) (a' := ?_) #[false, false, false, true, false, false, false, false, false] rfl rfl (any_of HT_.out (by kernel_rfl)) (fun _ _ _ h => h) (Or.inl ⟨by rfl, ?_⟩) ?_ ?_
      rotate_left
      · intro w'
        go_simp
        with_reducible rfl
      rotate_left
      · simp only [Act.put, List.setIfInBounds_toArray, List.set_cons_zero, List.set_cons_succ, i64_w, i32_w]
        rfl
      refine pure_ (i := 4) (N := some 19) (v := ?_) (a' := ?_) #[false, false, false, true, true, false, false, false, false] rfl rfl (any_of HT_.out (by kernel_rfl)) (fun _ _ _ h => h) (Or.inl ⟨by rfl, ?_⟩) ?_ ?_
      rotate_left
      · intro w'
        go_simp
        with_reducible rfl
      rotate_left
      · simp only [Act.put, List.setIfInBounds_toArray, List.set_cons_zero, List.set_cons_succ, i64_w, i32_w]
        rfl
      refine pure_ (i := 5) (N := some 20) (v := ?_) (a' := ?_) #[false, false, false, true, true, true, false, false, false] rfl rfl (any_of HT_.out (by kernel_rfl)) (fun _ _ _ h => h) (Or.inl ⟨by rfl, ?_⟩) ?_ ?_
      rotate_left
      · intro w'
        go_simp
        with_reducible rfl
      rotate_left
      · simp only [Act.put, List.setIfInBounds_toArray, List.set_cons_zero, List.set_cons_succ, i64_w, i32_w]
        rfl
      refine take_ (i := 0) (N := some 15) (v := ?_) (a' := ?_) #[true, false, false, true, true, true, false, false, false] rfl rfl (take_ofW HT_.out HW_.out (by kernel_rfl)) (fun _ _ _ h => h) (Or.inl ⟨by rfl, ?_⟩) hHeld ?_ ?_
      rotate_left
      · rintro w' ⟨s0, s1, s2, s3, s4, s5⟩
        go_simp
        with_reducible rfl
      rotate_left
      · simp only [Act.put, List.setIfInBounds_toArray, List.set_cons_zero, List.set_cons_succ, i64_w, i32_w]
        rfl
      refine take_ (i := 1) (N := some 16) (v := ?_) (a' := ?_) #[true, true, false, true, true, true, false, false, false] rfl rfl (take_ofW HT_.out HW_.out (by kernel_rfl)) (fun _ _ _ h => h) (Or.inl ⟨by rfl, ?_⟩) hHeld ?_ ?_
      rotate_left
      · rintro w' ⟨s0, s1, s2, s3, s4, s5⟩
        go_simp
        with_reducible rfl
      rotate_left
      · simp only [Act.put, List.setIfInBounds_toArray, List.set_cons_zero, List.set_cons_succ, i64_w, i32_w]
        rfl
      refine take_ (i := 6) (N := some 21) (v := ?_) (a' := ?_) #[true, true, false, true, true, true, true, false, false] rfl rfl (take_ofW HT_.out HW_.out (by kernel_rfl)) (fun _ _ _ h => h) (Or.inl ⟨by rfl, ?_⟩) hHeld ?_ ?_
      rotate_left
      · rintro w' ⟨s0, s1, s2, s3, s4, s5⟩
        go_simp
        with_reducible rfl
      rotate_left
      · simp only [Act.put, List.setIfInBounds_toArray, List.set_cons_zero, List.set_cons_succ, i64_w, i32_w]
        rfl
      refine one_ (i := 2) (N := some 17) #[true, true, true, true, true, true, true, false, false] rfl rfl (one_of HT_.out (by kernel_rfl)) (by decide) (fun K hK => ?_)
      refine goes_ Try.func29 (by kernel_rfl) rfl #[.agg #[.int .i64 o.1, .int .i64 o.2], .agg #[.int .i64 x.1, .int .i64 x.2]] (by rfl) rfl rfl (by (try simp only [List.map_toArray, List.map_cons, List.map_nil]); first | done | rfl | (simp only [List.length_drop, List.length_take]; rfl)) ?_
      with_reducible refine (mul_c o.1 o.2 x.1 x.2 _).mono ?_
      rintro e w15 ⟨rfl, hb⟩
      refine ⟨_, rfl, ?_⟩
      have n0_ := Aside0.mk (blk_below (g := (w.heap.size)) (o := .cells #[.int .i64 x.1, .int .i64 x.2] 23 (0, 0)) (by (with_reducible repeat (first | refine blk_drewN ?_ _ | refine blk_drew ?_ | refine blk_alloc ?_ _)); exact BK142.out) hb)
      have n1_ := Aside0.mk (blk_below (g := (w.heap.size + 1)) (o := .cells #[.int .i64 0, .int .i64 0] 23 (0, 0)) (by (with_reducible repeat (first | refine blk_drewN ?_ _ | refine blk_drew ?_ | refine blk_alloc ?_ _)); exact BK143.out) hb)
      have n2_ := Aside0.mk (blk_below (g := (w.heap.size + 2)) (o := .cells #[.int .i64 o.1, .int .i64 o.2] 23 (0, 0)) (by (with_reducible repeat (first | refine blk_drewN ?_ _ | refine blk_drew ?_ | refine blk_alloc ?_ _)); exact BK144.out) hb)
      have n3_ := Aside0.mk (below_step (by repeat (first | (with_reducible first | exact HB.out | apply below_alloc | apply pw_below_drewN | apply below_drew1 | refine below_set ?_ GE142.out | refine below_set ?_ GE143.out | refine below_set ?_ GE144.out) | exact HB.out)) hb)
      clear BK142
      clear BK143
      clear BK144
      clear HB
      have BK142 := n0_
      have BK143 := n1_
      have BK144 := n2_
      have HB := n3_
      clear n0_ n1_ n2_ n3_
      (try clear hb)
      (try clear hb2)
      (try clear hk)
      (try clear hi)
      refine hK.out _ _ ⟨(blk_cell BK144.out 0).trans rfl, (blk_cell BK144.out 1).trans rfl, (blk_cell BK142.out 0).trans rfl, (blk_cell BK142.out 1).trans rfl, ((HB.out.cell (World.block_lt_of_cell? w _ hw147_0)).trans hw147_0), ((HB.out.cell (World.block_lt_of_cell? w _ hw147_1)).trans hw147_1)⟩ (fun hHeld => ?_)
      clear hK K
      refine norm_ (a' := ?_) ?_ ?_
      rotate_left
      · show Act.put _ (some 17) _ = _
        simp only [Act.put, List.setIfInBounds_toArray, List.set_cons_zero, List.set_cons_succ, i64_w, i32_w]
        rfl
      refine one_ (i := 7) (N := some 22) #[true, true, true, true, true, true, true, true, false] rfl rfl (one_of HT_.out (by kernel_rfl)) (by decide) (fun K hK => ?_)
      refine goes_ Try.func31 (by kernel_rfl) rfl #[.agg #[.int .i64 (opE Gm.mul o x).1, .int .i64 (opE Gm.mul o x).2], .agg #[.int .i64 ((l.getD j (0, 0)).1), .int .i64 ((l.getD j (0, 0)).2)]] (by rfl) rfl rfl (by (try simp only [List.map_toArray, List.map_cons, List.map_nil]); first | done | rfl | (simp only [List.length_drop, List.length_take]; rfl)) ?_
      with_reducible refine (add_c (opE Gm.mul o x).1 (opE Gm.mul o x).2 (l.getD j (0, 0)).1 (l.getD j (0, 0)).2 _).mono ?_
      rintro e w16 ⟨rfl, hb⟩
      refine ⟨_, rfl, ?_⟩
      have n0_ := Aside0.mk (blk_below (g := (w.heap.size)) (o := .cells #[.int .i64 x.1, .int .i64 x.2] 23 (0, 0)) (by (with_reducible repeat (first | refine blk_drewN ?_ _ | refine blk_drew ?_ | refine blk_alloc ?_ _)); exact BK142.out) hb)
      have n1_ := Aside0.mk (blk_below (g := (w.heap.size + 1)) (o := .cells #[.int .i64 0, .int .i64 0] 23 (0, 0)) (by (with_reducible repeat (first | refine blk_drewN ?_ _ | refine blk_drew ?_ | refine blk_alloc ?_ _)); exact BK143.out) hb)
      have n2_ := Aside0.mk (blk_below (g := (w.heap.size + 2)) (o := .cells #[.int .i64 o.1, .int .i64 o.2] 23 (0, 0)) (by (with_reducible repeat (first | refine blk_drewN ?_ _ | refine blk_drew ?_ | refine blk_alloc ?_ _)); exact BK144.out) hb)
      have n3_ := Aside0.mk (below_step (by repeat (first | (with_reducible first | exact HB.out | apply below_alloc | apply pw_below_drewN | apply below_drew1 | refine below_set ?_ GE142.out | refine below_set ?_ GE143.out | refine below_set ?_ GE144.out) | exact HB.out)) hb)
      clear BK142
      clear BK143
      clear BK144
      clear HB
      have BK142 := n0_
      have BK143 := n1_
      have BK144 := n2_
      have HB := n3_
      clear n0_ n1_ n2_ n3_
      (try clear hb)
      (try clear hb2)
      (try clear hk)
      (try clear hi)
      refine hK.out _ _ ⟨(blk_cell BK144.out 0).trans rfl, (blk_cell BK144.out 1).trans rfl, (blk_cell BK142.out 0).trans rfl, (blk_cell BK142.out 1).trans rfl, ((HB.out.cell (World.block_lt_of_cell? w _ hw147_0)).trans hw147_0), ((HB.out.cell (World.block_lt_of_cell? w _ hw147_1)).trans hw147_1)⟩ (fun hHeld => ?_)
      clear hK K
      refine norm_ (a' := ?_) ?_ ?_
      rotate_left
      · show Act.put _ (some 22) _ = _
        simp only [Act.put, List.setIfInBounds_toArray, List.set_cons_zero, List.set_cons_succ, i64_w, i32_w]
        rfl
      refine last_ (i := 8) (N := none) #[true, true, true, true, true, true, true, true, true] rfl rfl (one_of HT_.out (by kernel_rfl)) (by decide) (fun K hK => ?_)
      have hs17 : w16.cell? ⟨(w.heap.size + 2), 0, none⟩ = some (.int .i64 o.1) := (blk_cell BK144.out 0).trans rfl
      have hfs17 := blk_frozen BK144.out 0
      have hns17_0 := NB142_144.out
      have hns17_1 := NB143_144.out
      have hms17_0 := NB144_142.out
      have hms17_1 := NB144_143.out
      have hs18 : w16.cell? ⟨(w.heap.size + 2), 1, none⟩ = some (.int .i64 o.2) := (blk_cell BK144.out 1).trans rfl
      have hfs18 := blk_frozen BK144.out 1
      have hns18_0 := NB142_144.out
      have hns18_1 := NB143_144.out
      have hms18_0 := NB144_142.out
      have hms18_1 := NB144_143.out
      refine skip_ (w1 := ?_) (by rfl) rfl ?_ ?_
      rotate_left
      · go_simp
        rfl
      refine hK.out _ _ ?_
      clear hK K
      refine done_ (done_of HT_.out (by kernel_rfl)) ?_
      try go_wp2
      go_step3
      refine ⟨rfl, ⟨j, opE Gm.add (opE Gm.mul o x) (l.getD j (0, 0)), _, _, _, _, _, _, _, _, _, _, _, _, _, _, _, _, rfl, ?_, ?_, ?_, ?_, ?_, ?_⟩, ?_⟩
      · exact blk_far (blk_far BK142.out NB142_144.out _) NB142_144.out _
      · exact blk_far (blk_far BK143.out NB143_144.out _) NB143_144.out _
      · refine blk_put (cs := #[.int .i64 (opE Gm.add (opE Gm.mul o x) (l.getD j (0, 0))).1, .int .i64 o.2]) ?_ 1 _ rfl
        exact blk_put (cs := #[.int .i64 o.1, .int .i64 o.2]) BK144.out 0 _ rfl
      · have := HI.out; omega
      · exact HF.out
      · exact below_set (below_set HB.out GE144.out) GE144.out
      · simp only [intOf, Array.getD_eq_getD_getElem?, List.getElem?_toArray, List.getElem?_cons_succ, List.getElem?_cons_zero, Option.getD_some, Int.toNat_natCast]
        omega
end Go.Proofs.Ytokkkeepifpbpaa.Fl
