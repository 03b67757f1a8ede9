import Derived.Test.YtdppmkcahfjceaaGz
import Derived.Test.YtdppmkcahfjceaaWWords
import Derived.Test.YtdppmkcahfjceaaWLast
import Derived.Test.YtdppmkcahfjceaaWTab
import Derived.Test.YtdppmkcahfjceaaWFour
import Derived.Test.YtdppmkcahfjceaaWQPut
import Derived.Test.YtdppmkcahfjceaaWApart
import Derived.Test.YtdppmkcahfjceaaWArr
import Derived.Test.YtdppmkcahfjceaaWZeros
import Derived.Test.YtdppmkcahfjceaaWFoot
import Derived.Test.YtdppmkcahfjceaaWKept
import Derived.Test.YtdppmkcahfjceaaWShare
import Derived.Test.YtdppmkcahfjceaaWN
import Derived.Test.YtdppmkcahfjceaaWFootNe
import Derived.Test.YtdppmkcahfjceaaWAt
import Derived.Test.YtdppmkcahfjceaaWEqStruct
import Derived.Test.YtdppmkcahfjceaaWRepsOne
import Derived.Test.YtdppmkcahfjceaaWGuard
import Derived.Test.YtdppmkcahfjceaaWNEv
import Derived.Test.YtdppmkcahfjceaaWMore
import Derived.Maps.OwnSet
section
/-
  share.Eval walked: a polynomial's value, from the last coefficient on. By an AI agent.
-/
namespace Go.Proofs.Ytdppmkcahfjceaa.Fl
open Flt
open Go.RowKit Go.Proofs.YtdppmkcahfjceaaW.PrintWords Go.Proofs.YtdppmkcahfjceaaW.PrintLast Go.Proofs.YtdppmkcahfjceaaW.PrintMore
set_option linter.unusedVariables false
set_option linter.unusedSimpArgs false

/-- what is made of o by the coefficients below i -/
def evFrom (l : List Gm.E) (x : Gm.E) : Nat → Gm.E → Gm.E
  | 0, o => o
  | i + 1, o => evFrom l x i (opE Gm.add (opE Gm.mul o x) (l.getD i (0, 0)))
/-- a row of elements in memory -/
def RowE (W : World) (A : Option Addr) (l : List Gm.E) : Prop := ∀ i : Nat, i < l.length → ∃ ad, A = some ad ∧ W.cell? (ad.add (i * 2)) = some (.int .i64 (l.getD i (0, 0)).1) ∧ W.cell? ⟨(ad.add (i * 2)).block, (ad.add (i * 2)).off + 1, none⟩ = some (.int .i64 (l.getD i (0, 0)).2)

theorem new_ (w : World) (o : Obj) {n : Nat} (h : w.heap.size = n) : (w.alloc o).heap[n]? = some o := by
  subst h
  exact blk_new w o
structure EvW (w0 : World) (l : List Gm.E) (x : Gm.E) (i : Nat) (o : Gm.E) (W : World) : Prop where
  bx : W.heap[w0.heap.size]? = some (.cells #[.int .i64 x.1, .int .i64 x.2] 23 (0, 0))
  br : W.heap[w0.heap.size + 1]? = some (.cells #[.int .i64 0, .int .i64 0] 23 (0, 0))
  bo : W.heap[w0.heap.size + 2]? = some (.cells #[.int .i64 o.1, .int .i64 o.2] 23 (0, 0))
  hi : i ≤ l.length
  fin : evFrom l x i o = evFrom l x l.length (0, 0)
  hb : Below w0.heap.size w0 W
def evT : Bool × List (List Nat × List Nat) := (true, [([], []), ([], []), ([0, 1], [0, 1]), ([], []), ([], []), ([3, 4], [3, 4]), ([5], [5]), ([2, 6, 2], [2, 6]), ([7, 7, 0, 1, 2, 3, 4, 5, 6, 7], [7])])
def evB : List Nat := [0, 0, 3, 0, 0, 24, 56, 127, 255]
theorem evTab : rtab .any (opsOf Try.f114 5) = evT := by kernel_rfl
theorem evBits : waitsOk evT.2 evB = true := by kernel_rfl

set_option maxHeartbeats 8000000 in
set_option maxRecDepth 100000 in
theorem eval_c (A : Option Addr) (c : Nat) (l : List Gm.E) (x : Gm.E) (w : World) (hr : RowE w A l) (hlen : l.length ≤ 9223372036854775807) :
    Calls Try.prog 114 #[.slice A l.length c, .agg #[.int .i64 x.1, .int .i64 x.2]] w fun e w' => e = .returned (.agg #[.int .i64 (evFrom l x l.length (0, 0)).1, .int .i64 (evFrom l x l.length (0, 0)).2]) ∧ Below w.heap.size w w' := by
  have HR0 := Lib.hid hr
  have HL := Lib.hid hlen
  clear hr hlen
  go_enter Try.func114, Try.ntmps114
  go_wp2_with fail
  refine wp_label_jumps 0 (fun a' w' => ∃ (i : Nat) (o : Gm.E) (u7 u8 u9 u10 u11 u12 u13 u14 u15 u16 u17 u18 u19 u20 u21 u22 : Value),
    a' = { tmps := #[.slice A l.length c, .agg #[.int .i64 x.1, .int .i64 x.2], undef, .pointer (some ⟨w.heap.size, 0, none⟩), .pointer (some ⟨w.heap.size + 1, 0, none⟩), .pointer (some ⟨w.heap.size + 2, 0, none⟩), .int .i64 i, u7, u8, u9, u10, u11, u12, u13, u14, u15, u16, u17, u18, u19, u20, u21, u22], defers := [] } ∧ EvW w l x i o w')
    (fun a' _ => (intOf (a'.tmps.getD 6 undef)).toNat) rfl ?pass ?first
  case first =>
    intro hrest
    go_wp2_with fail
    go_step3
    simp only [Exit.then]
    refine (by assumption : ∀ (a : Act) (w : World), Code.wp Try.prog _ _ a w → _ ) _ _ (hrest _ _ ?_)
    clear hrest
    refine ⟨l.length, (0, 0), _, _, _, _, _, _, _, _, _, _, _, _, _, _, _, _, rfl, ?_, ?_, ?_, Nat.le_refl _, rfl, ?_⟩
    · exact blk_alloc (blk_alloc (new_ _ _ rfl) _) _
    · exact blk_alloc (new_ _ _ (by simp)) _
    · exact new_ _ _ (by simp)
    · exact (((Below.refl _ _).alloc (Nat.le_refl _) _).alloc (by simp) _).alloc (by simp; omega) _
  case pass =>
    rintro a' w' ⟨i, o, u7, u8, u9, u10, u11, u12, u13, u14, u15, u16, u17, u18, u19, u20, u21, u22, rfl, H⟩
    obtain ⟨BK142, BK143, BK144, hi, fin, HB⟩ := H
    cases i with
    | zero =>
      have r1 : w'.cell? ⟨w.heap.size + 1, 0, none⟩ = some (.int .i64 0) := (blk_cell BK143 0).trans rfl
      have r2 : w'.cell? ⟨w.heap.size + 1, 1, none⟩ = some (.int .i64 0) := (blk_cell BK143 1).trans rfl
      have r3 := blk_frozen BK143 0
      have r4 := blk_frozen BK143 1
      have o1 : w'.cell? ⟨w.heap.size + 2, 0, none⟩ = some (.int .i64 o.1) := (blk_cell BK144 0).trans rfl
      have o2 : w'.cell? ⟨w.heap.size + 2, 1, none⟩ = some (.int .i64 o.2) := (blk_cell BK144 1).trans rfl
      have HF := Lib.hid fin
      have HB' := Lib.hid ((HB.setCell (p := ⟨w.heap.size + 1, 0, none⟩) (by simp) (.int .i64 o.1)).setCell (p := ⟨w.heap.size + 1, 1, none⟩) (by simp) (.int .i64 o.2))
      clear fin HB BK142 BK143 BK144 hi
      go_wp2
      simp only [Exit.jump]
      refine bodyPost_ret (v := .agg #[.int .i64 o.1, .int .i64 o.2]) ?_ rfl ⟨?_, HB'.out⟩
      · simp [results, Try.results114, go_sem, r1, r2]
      · rw [← HF.out]; rfl
    | succ j =>
      have c9 : (((j + 1 : Nat) : Int) == 0) = false := by rw [beq_eq_false_iff_ne]; omega
      have hw : wrap64 (j : Int) = (j : Int) := by have := HL.out; exact Go.IntWalk.wrap64_in _ (by omega)
      go_wp2_with fail
      rw [hw]
      have HF := Lib.hid fin
      have HI := Lib.hid hi
      have BK142 := Aside0.mk (blk_drew BK142)
      have BK143 := Aside0.mk (blk_drew BK143)
      have BK144 := Aside0.mk (blk_drew BK144)
      have HB := Aside0.mk (below_drew1 HB)
      have GE142 := Aside0.mk (Nat.le_refl w.heap.size)
      have GE143 := Aside0.mk (show w.heap.size ≤ w.heap.size + 1 by omega)
      have GE144 := Aside0.mk (show w.heap.size ≤ w.heap.size + 2 by omega)
      have NB142_144 := Aside0.mk (show w.heap.size ≠ w.heap.size + 2 by omega)
      have NB143_144 := Aside0.mk (show w.heap.size + 1 ≠ w.heap.size + 2 by omega)
      have NB144_142 := Aside0.mk (show w.heap.size + 2 ≠ w.heap.size by omega)
      have NB144_143 := Aside0.mk (show w.heap.size + 2 ≠ w.heap.size + 1 by omega)
      have p147 : 0 ≤ (j : Int) := by omega
      have q147 : (j : Int) < (l.length : Int) := by omega
      obtain ⟨ad147, e147, hx147_0, hx147_1⟩ := HR0.out j (by omega)
      have hw147_1 := hx147_1
      have hw147_0 := hx147_0
      cases e147
      replace hx147_0 := (HB.out.cell (World.block_lt_of_cell? w _ hx147_0)).trans hx147_0
      replace hx147_1 := (HB.out.cell (World.block_lt_of_cell? w _ hx147_1)).trans hx147_1
      replace p147 := eq_true p147
      replace q147 := eq_true q147
      have tn : ((j : Int)).toNat = j := Int.toNat_natCast j
      clear fin hi c9 hw
      refine start_ (n := 9) (S := fun w' => w'.cell? ⟨(w.heap.size + 2), 0, none⟩ = some (.int .i64 o.1) ∧ w'.cell? ⟨(w.heap.size + 2), 1, none⟩ = some (.int .i64 o.2) ∧ w'.cell? ⟨(w.heap.size), 0, none⟩ = some (.int .i64 x.1) ∧ w'.cell? ⟨(w.heap.size), 1, none⟩ = some (.int .i64 x.2) ∧ w'.cell? (ad147.add (j * 2)) = some (.int .i64 ((l.getD j (0, 0)).1)) ∧ w'.cell? ⟨(ad147.add (j * 2)).block, (ad147.add (j * 2)).off + 1, none⟩ = some (.int .i64 ((l.getD j (0, 0)).2))) (ds := [8]) #[false, false, false, false, false, false, false, false, false] (by kernel_rfl) rfl rfl ⟨(blk_cell BK144.out 0).trans rfl, (blk_cell BK144.out 1).trans rfl, (blk_cell BK142.out 0).trans rfl, (blk_cell BK142.out 1).trans rfl, ((HB.out.cell (World.block_lt_of_cell? w _ hw147_0)).trans hw147_0), ((HB.out.cell (World.block_lt_of_cell? w _ hw147_1)).trans hw147_1)⟩ (fun hHeld => ?_); refine with_tabW evTab evBits (fun HT_ HW_ => ?_)
      generalize w'.drew = w14 at BK142 BK143 BK144 HB hx147_0 hx147_1 hHeld ⊢
      refine pure_ (i := 3) (N := some 18) (v := ?_) (a' := ?_) #[false, false, false, true, false, false, false, false, false] rfl rfl (any_of HT_.out (by kernel_rfl)) (fun _ _ _ h => h) (Or.inl ⟨by rfl, ?_⟩) ?_ ?_
      rotate_left
      · intro w'
        go_simp
        with_reducible rfl
      rotate_left
      · simp only [Act.put, List.setIfInBounds_toArray, List.set_cons_zero, List.set_cons_succ, i64_w, i32_w]
        rfl
      refine pure_ (i := 4) (N := some 19) (v := ?_) (a' := ?_) #[false, false, false, true, true, false, false, false, false] rfl rfl (any_of HT_.out (by kernel_rfl)) (fun _ _ _ h => h) (Or.inl ⟨by rfl, ?_⟩) ?_ ?_
      rotate_left
      · intro w'
        go_simp
        with_reducible rfl
      rotate_left
      · simp only [Act.put, List.setIfInBounds_toArray, List.set_cons_zero, List.set_cons_succ, i64_w, i32_w]
        rfl
      refine pure_ (i := 5) (N := some 20) (v := ?_) (a' := ?_) #[false, false, false, true, true, true, false, false, false] rfl rfl (any_of HT_.out (by kernel_rfl)) (fun _ _ _ h => h) (Or.inl ⟨by rfl, ?_⟩) ?_ ?_
      rotate_left
      · intro w'
        go_simp
        with_reducible rfl
      rotate_left
      · simp only [Act.put, List.setIfInBounds_toArray, List.set_cons_zero, List.set_cons_succ, i64_w, i32_w]
        rfl
      refine take_ (i := 0) (N := some 15) (v := ?_) (a' := ?_) #[true, false, false, true, true, true, false, false, false] rfl rfl (take_ofW HT_.out HW_.out (by kernel_rfl)) (fun _ _ _ h => h) (Or.inl ⟨by rfl, ?_⟩) hHeld ?_ ?_
      rotate_left
      · rintro w' ⟨s0, s1, s2, s3, s4, s5⟩
        go_simp
        with_reducible rfl
      rotate_left
      · simp only [Act.put, List.setIfInBounds_toArray, List.set_cons_zero, List.set_cons_succ, i64_w, i32_w]
        rfl
      refine take_ (i := 1) (N := some 16) (v := ?_) (a' := ?_) #[true, true, false, true, true, true, false, false, false] rfl rfl (take_ofW HT_.out HW_.out (by kernel_rfl)) (fun _ _ _ h => h) (Or.inl ⟨by rfl, ?_⟩) hHeld ?_ ?_
      rotate_left
      · rintro w' ⟨s0, s1, s2, s3, s4, s5⟩
        go_simp
        with_reducible rfl
      rotate_left
      · simp only [Act.put, List.setIfInBounds_toArray, List.set_cons_zero, List.set_cons_succ, i64_w, i32_w]
        rfl
      refine take_ (i := 6) (N := some 21) (v := ?_) (a' := ?_) #[true, true, false, true, true, true, true, false, false] rfl rfl (take_ofW HT_.out HW_.out (by kernel_rfl)) (fun _ _ _ h => h) (Or.inl ⟨by rfl, ?_⟩) hHeld ?_ ?_
      rotate_left
      · rintro w' ⟨s0, s1, s2, s3, s4, s5⟩
        go_simp
        with_reducible rfl
      rotate_left
      · simp only [Act.put, List.setIfInBounds_toArray, List.set_cons_zero, List.set_cons_succ, i64_w, i32_w]
        rfl
      refine one_ (i := 2) (N := some 17) #[true, true, true, true, true, true, true, false, false] rfl rfl (one_of HT_.out (by kernel_rfl)) (by decide) (fun K hK => ?_)
      refine goes_ Try.func120 (by kernel_rfl) rfl #[.agg #[.int .i64 o.1, .int .i64 o.2], .agg #[.int .i64 x.1, .int .i64 x.2]] (by rfl) rfl rfl (by (try simp only [List.map_toArray, List.map_cons, List.map_nil]); first | done | rfl | (simp only [List.length_drop, List.length_take]; rfl)) ?_
      with_reducible refine (mul_c o.1 o.2 x.1 x.2 _).mono ?_
      rintro e w15 ⟨rfl, hb⟩
      refine ⟨_, rfl, ?_⟩
      have n0_ := Aside0.mk (blk_below (g := (w.heap.size)) (o := .cells #[.int .i64 x.1, .int .i64 x.2] 23 (0, 0)) (by (with_reducible repeat (first | refine blk_drewN ?_ _ | refine blk_drew ?_ | refine blk_alloc ?_ _)); exact BK142.out) hb)
      have n1_ := Aside0.mk (blk_below (g := (w.heap.size + 1)) (o := .cells #[.int .i64 0, .int .i64 0] 23 (0, 0)) (by (with_reducible repeat (first | refine blk_drewN ?_ _ | refine blk_drew ?_ | refine blk_alloc ?_ _)); exact BK143.out) hb)
      have n2_ := Aside0.mk (blk_below (g := (w.heap.size + 2)) (o := .cells #[.int .i64 o.1, .int .i64 o.2] 23 (0, 0)) (by (with_reducible repeat (first | refine blk_drewN ?_ _ | refine blk_drew ?_ | refine blk_alloc ?_ _)); exact BK144.out) hb)
      have n3_ := Aside0.mk (below_step (by repeat (first | (with_reducible first | exact HB.out | apply below_alloc | apply pw_below_drewN | apply below_drew1 | refine below_set ?_ GE142.out | refine below_set ?_ GE143.out | refine below_set ?_ GE144.out) | exact HB.out)) hb)
      clear BK142
      clear BK143
      clear BK144
      clear HB
      have BK142 := n0_
      have BK143 := n1_
      have BK144 := n2_
      have HB := n3_
      clear n0_ n1_ n2_ n3_
      (try clear hb)
      (try clear hb2)
      (try clear hk)
      (try clear hi)
      refine hK.out _ _ ⟨(blk_cell BK144.out 0).trans rfl, (blk_cell BK144.out 1).trans rfl, (blk_cell BK142.out 0).trans rfl, (blk_cell BK142.out 1).trans rfl, ((HB.out.cell (World.block_lt_of_cell? w _ hw147_0)).trans hw147_0), ((HB.out.cell (World.block_lt_of_cell? w _ hw147_1)).trans hw147_1)⟩ (fun hHeld => ?_)
      clear hK K
      refine norm_ (a' := ?_) ?_ ?_
      rotate_left
      · show Act.put _ (some 17) _ = _
        simp only [Act.put, List.setIfInBounds_toArray, List.set_cons_zero, List.set_cons_succ, i64_w, i32_w]
        rfl
      refine one_ (i := 7) (N := some 22) #[true, true, true, true, true, true, true, true, false] rfl rfl (one_of HT_.out (by kernel_rfl)) (by decide) (fun K hK => ?_)
      refine goes_ Try.func119 (by kernel_rfl) rfl #[.agg #[.int .i64 (opE Gm.mul o x).1, .int .i64 (opE Gm.mul o x).2], .agg #[.int .i64 ((l.getD j (0, 0)).1), .int .i64 ((l.getD j (0, 0)).2)]] (by rfl) rfl rfl (by (try simp only [List.map_toArray, List.map_cons, List.map_nil]); first | done | rfl | (simp only [List.length_drop, List.length_take]; rfl)) ?_
      with_reducible refine (add_c (opE Gm.mul o x).1 (opE Gm.mul o x).2 (l.getD j (0, 0)).1 (l.getD j (0, 0)).2 _).mono ?_
      rintro e w16 ⟨rfl, hb⟩
      refine ⟨_, rfl, ?_⟩
      have n0_ := Aside0.mk (blk_below (g := (w.heap.size)) (o := .cells #[.int .i64 x.1, .int .i64 x.2] 23 (0, 0)) (by (with_reducible repeat (first | refine blk_drewN ?_ _ | refine blk_drew ?_ | refine blk_alloc ?_ _)); exact BK142.out) hb)
      have n1_ := Aside0.mk (blk_below (g := (w.heap.size + 1)) (o := .cells #[.int .i64 0, .int .i64 0] 23 (0, 0)) (by (with_reducible repeat (first | refine blk_drewN ?_ _ | refine blk_drew ?_ | refine blk_alloc ?_ _)); exact BK143.out) hb)
      have n2_ := Aside0.mk (blk_below (g := (w.heap.size + 2)) (o := .cells #[.int .i64 o.1, .int .i64 o.2] 23 (0, 0)) (by (with_reducible repeat (first | refine blk_drewN ?_ _ | refine blk_drew ?_ | refine blk_alloc ?_ _)); exact BK144.out) hb)
      have n3_ := Aside0.mk (below_step (by repeat (first | (with_reducible first | exact HB.out | apply below_alloc | apply pw_below_drewN | apply below_drew1 | refine below_set ?_ GE142.out | refine below_set ?_ GE143.out | refine below_set ?_ GE144.out) | exact HB.out)) hb)
      clear BK142
      clear BK143
      clear BK144
      clear HB
      have BK142 := n0_
      have BK143 := n1_
      have BK144 := n2_
      have HB := n3_
      clear n0_ n1_ n2_ n3_
      (try clear hb)
      (try clear hb2)
      (try clear hk)
      (try clear hi)
      refine hK.out _ _ ⟨(blk_cell BK144.out 0).trans rfl, (blk_cell BK144.out 1).trans rfl, (blk_cell BK142.out 0).trans rfl, (blk_cell BK142.out 1).trans rfl, ((HB.out.cell (World.block_lt_of_cell? w _ hw147_0)).trans hw147_0), ((HB.out.cell (World.block_lt_of_cell? w _ hw147_1)).trans hw147_1)⟩ (fun hHeld => ?_)
      clear hK K
      refine norm_ (a' := ?_) ?_ ?_
      rotate_left
      · show Act.put _ (some 22) _ = _
        simp only [Act.put, List.setIfInBounds_toArray, List.set_cons_zero, List.set_cons_succ, i64_w, i32_w]
        rfl
      refine last_ (i := 8) (N := none) #[true, true, true, true, true, true, true, true, true] rfl rfl (one_of HT_.out (by kernel_rfl)) (by decide) (fun K hK => ?_)
      have hs17 : w16.cell? ⟨(w.heap.size + 2), 0, none⟩ = some (.int .i64 o.1) := (blk_cell BK144.out 0).trans rfl
      have hfs17 := blk_frozen BK144.out 0
      have hns17_0 := NB142_144.out
      have hns17_1 := NB143_144.out
      have hms17_0 := NB144_142.out
      have hms17_1 := NB144_143.out
      have hs18 : w16.cell? ⟨(w.heap.size + 2), 1, none⟩ = some (.int .i64 o.2) := (blk_cell BK144.out 1).trans rfl
      have hfs18 := blk_frozen BK144.out 1
      have hns18_0 := NB142_144.out
      have hns18_1 := NB143_144.out
      have hms18_0 := NB144_142.out
      have hms18_1 := NB144_143.out
      refine skip_ (w1 := ?_) (by rfl) rfl ?_ ?_
      rotate_left
      · go_simp
        rfl
      refine hK.out _ _ ?_
      clear hK K
      refine done_ (done_of HT_.out (by kernel_rfl)) ?_
      try go_wp2
      go_step3
      refine ⟨rfl, ⟨j, opE Gm.add (opE Gm.mul o x) (l.getD j (0, 0)), _, _, _, _, _, _, _, _, _, _, _, _, _, _, _, _, rfl, ?_, ?_, ?_, ?_, ?_, ?_⟩, ?_⟩
      · exact blk_far (blk_far BK142.out NB142_144.out _) NB142_144.out _
      · exact blk_far (blk_far BK143.out NB143_144.out _) NB143_144.out _
      · refine blk_put (cs := #[.int .i64 (opE Gm.add (opE Gm.mul o x) (l.getD j (0, 0))).1, .int .i64 o.2]) ?_ 1 _ rfl
        exact blk_put (cs := #[.int .i64 o.1, .int .i64 o.2]) BK144.out 0 _ rfl
      · have := HI.out; omega
      · exact HF.out
      · exact below_set (below_set HB.out GE144.out) GE144.out
      · simp only [intOf, Array.getD_eq_getD_getElem?, List.getElem?_toArray, List.getElem?_cons_succ, List.getElem?_cons_zero, Option.getD_some, Int.toNat_natCast]
        omega
end Go.Proofs.Ytdppmkcahfjceaa.Fl
end
section
/-
  slices.IndexFunc and slices.ContainsFunc at []api.Elem and []api.Share, with whatever predicate turns nothing. By an AI agent.
-/
namespace Go.Proofs.Ytdppmkcahfjceaa.Fl
open Flt
open Go.RowKit Go.Proofs.YtdppmkcahfjceaaW.PrintWords Go.Proofs.YtdppmkcahfjceaaW.PrintLast Go.Proofs.YtdppmkcahfjceaaW.PrintMore
set_option linter.unusedVariables false
set_option linter.unusedSimpArgs false

/-- the first place from i on (n places in all) at which p holds, or -1 -/
def ixFrom (p : Nat → Bool) (n : Nat) : Nat → Nat → Int
  | 0, _ => -1
  | k + 1, i => if p i then (i : Int) else ixFrom p n k (i + 1)
def ix (p : Nat → Bool) (n : Nat) : Int := ixFrom p n n 0
theorem ixFrom_nonneg (p : Nat → Bool) (n : Nat) : ∀ k i, 0 ≤ ixFrom p n k i ↔ ∃ j, i ≤ j ∧ j < i + k ∧ p j = true
  | 0, i => by
    constructor
    · intro h; simp [ixFrom] at h
    · rintro ⟨j, h1, h2, _⟩; omega
  | k + 1, i => by
    rw [ixFrom]
    by_cases h : p i = true
    · rw [if_pos h]
      exact ⟨fun _ => ⟨i, Nat.le_refl _, by omega, h⟩, fun _ => by omega⟩
    · rw [if_neg h, ixFrom_nonneg p n k (i + 1)]
      constructor
      · rintro ⟨j, h1, h2, h3⟩; exact ⟨j, by omega, by omega, h3⟩
      · rintro ⟨j, h1, h2, h3⟩
        by_cases e : j = i
        · subst e; exact absurd h3 h
        · exact ⟨j, by omega, by omega, h3⟩
theorem ix_nonneg (p : Nat → Bool) (n : Nat) : 0 ≤ ix p n ↔ ∃ j, j < n ∧ p j = true := by
  unfold ix
  rw [ixFrom_nonneg]
  constructor
  · rintro ⟨j, _, h2, h3⟩; exact ⟨j, by omega, h3⟩
  · rintro ⟨j, h2, h3⟩; exact ⟨j, Nat.zero_le _, by omega, h3⟩

set_option maxHeartbeats 4000000 in
set_option maxRecDepth 100000 in
theorem index_elem (A : Option Addr) (c : Nat) (l : List Gm.E) (g : Nat) (p : Gm.E → Bool) (w : World) (hr : RowE w A l) (hlen : l.length ≤ 9223372036854775807)
    (eg : ∀ args w, (callFunc g args).run Try.prog w = .ok (.enter g args) w)
    (hp : ∀ (W : World) (x : Gm.E), Calls Try.prog g #[.agg #[.int .i64 x.1, .int .i64 x.2]] W fun e w' => e = .returned (.bool (p x)) ∧ Below W.heap.size W w') :
    Calls Try.prog 151 #[.slice A l.length c, .func (.func g) #[] #[]] w fun e w' => e = .returned (.int .i64 (ix (fun i => p (l.getD i (0, 0))) l.length)) ∧ Below w.heap.size w w' := by
  have HR0 := Lib.hid hr
  have HL := Lib.hid hlen
  have HP := Lib.hid hp
  clear hr hlen hp
  go_enter Try.func151, Try.ntmps151
  go_wp2
  go_loopg [5, 8] l.length (fun gg _ s8 wr => ∃ kk : Nat, kk ≤ l.length ∧ l.length - kk ≤ gg ∧ s8 = .int .i64 kk ∧ Aside0 (Below w.heap.size w wr) ∧ Aside0 (ixFrom (fun i => p (l.getD i (0, 0))) l.length (l.length - kk) kk = ix (fun i => p (l.getD i (0, 0))) l.length))
  case atStart => exact ⟨0, Nat.zero_le _, by omega, rfl, ⟨Below.refl _ w⟩, ⟨rfl⟩⟩
  case round =>
    obtain ⟨kk, hkk, hg, rfl, BW, FI⟩ := hrel
    by_cases hlt : kk < l.length
    · have hltz : (kk : Int) < (l.length : Int) := by omega
      have p147 := eq_true (show 0 ≤ (kk : Int) by omega)
      have q147 := eq_true hltz
      obtain ⟨ad147, e147, hx147_0, hx147_1⟩ := HR0.out kk hlt
      cases e147
      replace hx147_0 := (BW.out.cell (World.block_lt_of_cell? w _ hx147_0)).trans hx147_0
      replace hx147_1 := (BW.out.cell (World.block_lt_of_cell? w _ hx147_1)).trans hx147_1
      have hcall := HP.out wr (l.getD kk (0, 0))
      have FI' := FI.out
      rw [show l.length - kk = (l.length - (kk + 1)) + 1 by omega, ixFrom] at FI'
      generalize hy : l.getD kk (0, 0) = y at hx147_0 hx147_1 hcall FI'
      have tn : ((kk : Int)).toNat = kk := Int.toNat_natCast kk
      cases hq : p y with
      | true =>
        rw [hq] at hcall
        rw [if_pos (hq)] at FI'
        have HF := Lib.hid FI'
        clear hy FI FI'
        go_wp2_with fail
        refine hcall.mono ?_
        rintro e w' ⟨rfl, hb'⟩
        go_wp2
        go_ret
        exact ⟨congrArg (fun z => Ending.returned (Value.int .i64 z)) HF.out, BW.out.trans (hb'.mono BW.out.size)⟩
      | false =>
        rw [hq] at hcall
        rw [if_neg (by rw [hq]; decide)] at FI'
        have HF := Lib.hid FI'
        clear hy FI FI'
        have hw : wrap64 ((kk : Int) + 1) = ((kk + 1 : Nat) : Int) := by have := HL.out; rw [Go.IntWalk.wrap64_in _ (by omega)]; omega
        go_wp2_with fail
        refine hcall.mono ?_
        rintro e w' ⟨rfl, hb'⟩
        go_wp2
        go_roundg (l.length - (kk + 1))
        case measure => omega
        case rel => exact ⟨kk + 1, by omega, by omega, by first | exact congrArg _ hw | go_num, ⟨BW.out.trans (hb'.mono BW.out.size)⟩, ⟨HF.out⟩⟩
    · have hltz : ¬ (kk : Int) < (l.length : Int) := by omega
      have e : l.length - kk = 0 := by omega
      have FI' := FI.out
      rw [e, ixFrom] at FI'
      have HF := Lib.hid FI'
      clear FI FI' e
      go_wp2
      go_ret
      exact ⟨congrArg (fun z => Ending.returned (Value.int .i64 z)) HF.out, BW.out⟩

/-- a row of shares in memory -/
def RowS (W : World) (A : Option Addr) (l : List (Int × Gm.E)) : Prop := ∀ i : Nat, i < l.length → ∃ ad, A = some ad ∧ W.cell? (ad.add (i * 3)) = some (.int .i64 (l.getD i (0, (0, 0))).1) ∧ W.cell? ⟨(ad.add (i * 3)).block, (ad.add (i * 3)).off + 1, none⟩ = some (.int .i64 (l.getD i (0, (0, 0))).2.1) ∧ W.cell? ⟨(ad.add (i * 3)).block, (ad.add (i * 3)).off + 2, none⟩ = some (.int .i64 (l.getD i (0, (0, 0))).2.2)
set_option maxHeartbeats 4000000 in
set_option maxRecDepth 100000 in
theorem index_share (A : Option Addr) (c : Nat) (l : List (Int × Gm.E)) (g : Nat) (p : Int × Gm.E → Bool) (w : World) (hr : RowS w A l) (hlen : l.length ≤ 9223372036854775807)
    (eg : ∀ args w, (callFunc g args).run Try.prog w = .ok (.enter g args) w)
    (hp : ∀ (W : World) (x : Int × Gm.E), Calls Try.prog g #[.agg #[.int .i64 x.1, .int .i64 x.2.1, .int .i64 x.2.2]] W fun e w' => e = .returned (.bool (p x)) ∧ Below W.heap.size W w') :
    Calls Try.prog 152 #[.slice A l.length c, .func (.func g) #[] #[]] w fun e w' => e = .returned (.int .i64 (ix (fun i => p (l.getD i (0, (0, 0)))) l.length)) ∧ Below w.heap.size w w' := by
  have HR0 := Lib.hid hr
  have HL := Lib.hid hlen
  have HP := Lib.hid hp
  clear hr hlen hp
  go_enter Try.func152, Try.ntmps152
  go_wp2
  go_loopg [5, 8] l.length (fun gg _ s8 wr => ∃ kk : Nat, kk ≤ l.length ∧ l.length - kk ≤ gg ∧ s8 = .int .i64 kk ∧ Aside0 (Below w.heap.size w wr) ∧ Aside0 (ixFrom (fun i => p (l.getD i (0, (0, 0)))) l.length (l.length - kk) kk = ix (fun i => p (l.getD i (0, (0, 0)))) l.length))
  case atStart => exact ⟨0, Nat.zero_le _, by omega, rfl, ⟨Below.refl _ w⟩, ⟨rfl⟩⟩
  case round =>
    obtain ⟨kk, hkk, hg, rfl, BW, FI⟩ := hrel
    by_cases hlt : kk < l.length
    · have hltz : (kk : Int) < (l.length : Int) := by omega
      have p147 := eq_true (show 0 ≤ (kk : Int) by omega)
      have q147 := eq_true hltz
      obtain ⟨ad147, e147, hx147_0, hx147_1, hx147_2⟩ := HR0.out kk hlt
      cases e147
      replace hx147_0 := (BW.out.cell (World.block_lt_of_cell? w _ hx147_0)).trans hx147_0
      replace hx147_1 := (BW.out.cell (World.block_lt_of_cell? w _ hx147_1)).trans hx147_1
      replace hx147_2 := (BW.out.cell (World.block_lt_of_cell? w _ hx147_2)).trans hx147_2
      have hcall := HP.out wr (l.getD kk (0, (0, 0)))
      have FI' := FI.out
      rw [show l.length - kk = (l.length - (kk + 1)) + 1 by omega, ixFrom] at FI'
      generalize hy : l.getD kk (0, (0, 0)) = y at hx147_0 hx147_1 hx147_2 hcall FI'
      have tn : ((kk : Int)).toNat = kk := Int.toNat_natCast kk
      cases hq : p y with
      | true =>
        rw [hq] at hcall
        rw [if_pos (hq)] at FI'
        have HF := Lib.hid FI'
        clear hy FI FI'
        go_wp2_with fail
        refine hcall.mono ?_
        rintro e w' ⟨rfl, hb'⟩
        go_wp2
        go_ret
        exact ⟨congrArg (fun z => Ending.returned (Value.int .i64 z)) HF.out, BW.out.trans (hb'.mono BW.out.size)⟩
      | false =>
        rw [hq] at hcall
        rw [if_neg (by rw [hq]; decide)] at FI'
        have HF := Lib.hid FI'
        clear hy FI FI'
        have hw : wrap64 ((kk : Int) + 1) = ((kk + 1 : Nat) : Int) := by have := HL.out; rw [Go.IntWalk.wrap64_in _ (by omega)]; omega
        go_wp2_with fail
        refine hcall.mono ?_
        rintro e w' ⟨rfl, hb'⟩
        go_wp2
        go_roundg (l.length - (kk + 1))
        case measure => omega
        case rel => exact ⟨kk + 1, by omega, by omega, by first | exact congrArg _ hw | go_num, ⟨BW.out.trans (hb'.mono BW.out.size)⟩, ⟨HF.out⟩⟩
    · have hltz : ¬ (kk : Int) < (l.length : Int) := by omega
      have e : l.length - kk = 0 := by omega
      have FI' := FI.out
      rw [e, ixFrom] at FI'
      have HF := Lib.hid FI'
      clear FI FI' e
      go_wp2
      go_ret
      exact ⟨congrArg (fun z => Ending.returned (Value.int .i64 z)) HF.out, BW.out⟩

set_option maxHeartbeats 4000000 in
theorem contains_elem (A : Option Addr) (c : Nat) (l : List Gm.E) (g : Nat) (p : Gm.E → Bool) (w : World) (hr : RowE w A l) (hlen : l.length ≤ 9223372036854775807)
    (eg : ∀ args w, (callFunc g args).run Try.prog w = .ok (.enter g args) w)
    (hp : ∀ (W : World) (x : Gm.E), Calls Try.prog g #[.agg #[.int .i64 x.1, .int .i64 x.2]] W fun e w' => e = .returned (.bool (p x)) ∧ Below W.heap.size W w') :
    Calls Try.prog 113 #[.slice A l.length c, .func (.func g) #[] #[]] w fun e w' => e = .returned (.bool (decide (0 ≤ ix (fun i => p (l.getD i (0, 0))) l.length))) ∧ Below w.heap.size w w' := by
  have HC := Lib.hid (index_elem A c l g p w hr hlen eg hp)
  clear hr hlen hp eg
  go_enter Try.func113, Try.ntmps113
  go_wp2_with fail
  refine HC.out.mono ?_
  rintro e w' ⟨rfl, hb⟩
  go_wp2
  go_ret
  exact ⟨rfl, hb⟩

set_option maxHeartbeats 4000000 in
theorem contains_share (A : Option Addr) (c : Nat) (l : List (Int × Gm.E)) (g : Nat) (p : Int × Gm.E → Bool) (w : World) (hr : RowS w A l) (hlen : l.length ≤ 9223372036854775807)
    (eg : ∀ args w, (callFunc g args).run Try.prog w = .ok (.enter g args) w)
    (hp : ∀ (W : World) (x : Int × Gm.E), Calls Try.prog g #[.agg #[.int .i64 x.1, .int .i64 x.2.1, .int .i64 x.2.2]] W fun e w' => e = .returned (.bool (p x)) ∧ Below W.heap.size W w') :
    Calls Try.prog 118 #[.slice A l.length c, .func (.func g) #[] #[]] w fun e w' => e = .returned (.bool (decide (0 ≤ ix (fun i => p (l.getD i (0, (0, 0)))) l.length))) ∧ Below w.heap.size w w' := by
  have HC := Lib.hid (index_share A c l g p w hr hlen eg hp)
  clear hr hlen hp eg
  go_enter Try.func118, Try.ntmps118
  go_wp2_with fail
  refine HC.out.mono ?_
  rintro e w' ⟨rfl, hb⟩
  go_wp2
  go_ret
  exact ⟨rfl, hb⟩

set_option maxHeartbeats 4000000 in
theorem of_odd (a b : Int) (w : World) : Calls Try.prog 112 #[.agg #[.int .i64 a, .int .i64 b]] w fun e w' => e = .returned (.bool (!mayB a b)) ∧ Below w.heap.size w w' := by
  have M1 := Lib.hid (fun w => may_c a b w)
  go_enter Try.func112, Try.ntmps112
  go_wp2_with fail
  refine (M1.out _).mono ?_
  rintro e w1 ⟨rfl, hb⟩
  go_wp2
  go_ret
  exact ⟨rfl, ((Below.refl _ _).alloc (Nat.le_refl _) _).trans (hb.mono (by simp))⟩
set_option maxHeartbeats 4000000 in
theorem open_odd (i a b : Int) (w : World) : Calls Try.prog 116 #[.agg #[.int .i64 i, .int .i64 a, .int .i64 b]] w fun e w' => e = .returned (.bool (!mayB a b)) ∧ Below w.heap.size w w' := by
  have M1 := Lib.hid (fun w => may_c a b w)
  go_enter Try.func116, Try.ntmps116
  go_wp2_with fail
  refine (M1.out _).mono ?_
  rintro e w1 ⟨rfl, hb⟩
  go_wp2
  go_ret
  exact ⟨rfl, ((Below.refl _ _).alloc (Nat.le_refl _) _).trans (hb.mono (by simp))⟩
end Go.Proofs.Ytdppmkcahfjceaa.Fl
end
section
/-
  share.Of walked: a seat's share. By an AI agent.
-/
namespace Go.Proofs.Ytdppmkcahfjceaa.Fl
open Flt
open Go.RowKit Go.Proofs.YtdppmkcahfjceaaW.PrintWords Go.Proofs.YtdppmkcahfjceaaW.PrintLast Go.Proofs.YtdppmkcahfjceaaW.PrintMore
set_option linter.unusedVariables false
set_option linter.unusedSimpArgs false

/-- may all coefficients be? -/
def oddE (l : List Gm.E) : Bool := decide (0 ≤ ix (fun i => (fun x : Gm.E => !mayB x.1 x.2) (l.getD i (0, 0))) l.length)
def evE (l : List Gm.E) (x : Gm.E) : Gm.E := evFrom l x l.length (0, 0)
def ofE (l : List Gm.E) (id : Int) : (Int × Gm.E) × Int := if id < 1 then ((0, (0, 0)), 1) else if id > 64 then ((0, (0, 0)), 1) else if oddE l = true then ((0, (0, 0)), 1) else ((id, evE l (id, 0)), 0)

theorem rowE_below {W W' : World} {A : Option Addr} {l : List Gm.E} (h : RowE W A l) (hb : Below W.heap.size W W') : RowE W' A l := by
  intro i hi
  obtain ⟨ad, e, h0, h1⟩ := h i hi
  exact ⟨ad, e, (hb.cell (World.block_lt_of_cell? W _ h0)).trans h0, (hb.cell (World.block_lt_of_cell? W _ h1)).trans h1⟩
theorem enters_c {g : Nat} {fn : Func} (hf : Try.prog.funcs[g]? = some fn) (hname : (fn.name == "runtime.NumGoroutine") = false) (hb : fn.body.isSome = true) : ∀ args w, (callFunc g args).run Try.prog w = .ok (.enter g args) w := fun args w => enters_ hf hname hb args w

set_option maxHeartbeats 8000000 in
set_option maxRecDepth 100000 in
theorem of_c (A : Option Addr) (c : Nat) (l : List Gm.E) (id : Int) (w : World) (hr : RowE w A l) (hlen : l.length ≤ 9223372036854775807) :
    Calls Try.prog 68 #[.slice A l.length c, .int .i64 id] w fun e w' => e = .returned (.tuple #[.agg #[.int .i64 (ofE l id).1.1, .int .i64 (ofE l id).1.2.1, .int .i64 (ofE l id).1.2.2], .int .i64 (ofE l id).2]) ∧ Below w.heap.size w w' := by
  by_cases h1 : id < 1
  · have d1 : decide (id < 1) = true := decide_eq_true h1
    have e : ofE l id = ((0, (0, 0)), 1) := by unfold ofE; rw [if_pos h1]
    rw [e]
    clear e hr hlen h1
    go_enter Try.func68, Try.ntmps68
    go_wp2
    refine bodyPost_ret (v := .tuple #[.agg #[.int .i64 0, .int .i64 0, .int .i64 0], .int .i64 1]) ?_ rfl ⟨rfl, ?_⟩
    · simp [results, Try.results68, go_sem]
    · exact ((Below.refl _ _).alloc (Nat.le_refl _) _)
  · have d1 : decide (id < 1) = false := decide_eq_false h1
    by_cases h2 : id > 64
    · have d2 : decide (id > 64) = true := decide_eq_true h2
      have e : ofE l id = ((0, (0, 0)), 1) := by unfold ofE; rw [if_neg h1, if_pos h2]
      rw [e]
      clear e hr hlen h1 h2
      go_enter Try.func68, Try.ntmps68
      go_wp2
      refine bodyPost_ret (v := .tuple #[.agg #[.int .i64 0, .int .i64 0, .int .i64 0], .int .i64 1]) ?_ rfl ⟨rfl, ?_⟩
      · simp [results, Try.results68, go_sem]
      · exact ((Below.refl _ _).alloc (Nat.le_refl _) _)
    · have d2 : decide (id > 64) = false := decide_eq_false h2
      have B0 : Below w.heap.size w (w.alloc (.cells #[.int .i64 0, .int .i64 0, .int .i64 0] 104)) := (Below.refl _ _).alloc (Nat.le_refl _) _
      have hr0 : RowE (w.alloc (.cells #[.int .i64 0, .int .i64 0, .int .i64 0] 104)) A l := rowE_below hr B0
      have HC := Lib.hid (contains_elem A c l 112 (fun x => !mayB x.1 x.2) _ hr0 hlen (enters_c Try.func112 rfl rfl) (fun W x => of_odd x.1 x.2 W))
      have R0 : (w.alloc (.cells #[.int .i64 0, .int .i64 0, .int .i64 0] 104)).heap[w.heap.size]? = some (.cells #[.int .i64 0, .int .i64 0, .int .i64 0] 104 (0, 0)) := new_ _ _ rfl
      have HB0 := Lib.hid B0
      have HR0 := Lib.hid R0
      by_cases h3 : oddE l = true
      · have e : ofE l id = ((0, (0, 0)), 1) := by unfold ofE; rw [if_neg h1, if_neg h2, if_pos h3]
        rw [e]
        unfold oddE at h3
        rw [h3] at HC
        clear e h1 h2 h3 hr hr0 hlen B0 R0
        go_enter Try.func68, Try.ntmps68
        go_wp2_with fail
        refine HC.out.mono ?_
        rintro e w1 ⟨rfl, hb⟩
        have R1 := blk_below HR0.out hb
        have r1 : w1.cell? ⟨w.heap.size, 0, none⟩ = some (.int .i64 0) := (blk_cell R1 0).trans rfl
        have r2 : w1.cell? ⟨w.heap.size, 1, none⟩ = some (.int .i64 0) := (blk_cell R1 1).trans rfl
        have r3 : w1.cell? ⟨w.heap.size, 2, none⟩ = some (.int .i64 0) := (blk_cell R1 2).trans rfl
        have f1 := blk_frozen R1 0
        have f2 := blk_frozen R1 1
        have f3 := blk_frozen R1 2
        have HB1 := Lib.hid (HB0.out.trans (hb.mono HB0.out.size))
        clear hb R1
        go_wp2
        refine bodyPost_ret (v := .tuple #[.agg #[.int .i64 0, .int .i64 0, .int .i64 0], .int .i64 1]) ?_ rfl ⟨rfl, ?_⟩
        · simp [results, Try.results68, go_sem, r1, r2, r3]
        · exact below_set (below_set (below_set HB1.out (Nat.le_refl _)) (Nat.le_refl _)) (Nat.le_refl _)
      · have e : ofE l id = ((id, evE l (id, 0)), 0) := by unfold ofE; rw [if_neg h1, if_neg h2, if_neg h3]
        rw [e]
        have h3' : oddE l = false := by simpa using h3
        unfold oddE at h3'
        rw [h3'] at HC
        have HR := Lib.hid hr
        have HL := Lib.hid hlen
        clear e h1 h2 h3 h3' hr hr0 hlen B0 R0
        go_enter Try.func68, Try.ntmps68
        go_wp2_with fail
        refine HC.out.mono ?_
        rintro e w1 ⟨rfl, hb⟩
        have HB1 := Lib.hid (HB0.out.trans (hb.mono HB0.out.size))
        have R1 := Lib.hid (blk_below HR0.out hb)
        clear hb
        go_wp2_with fail
        refine (eval_c A c l (id, 0) w1 (rowE_below HR.out HB1.out) HL.out).mono ?_
        rintro e w2 ⟨rfl, hb⟩
        have R2 := blk_below R1.out hb
        have r1 : w2.cell? ⟨w.heap.size, 0, none⟩ = some (.int .i64 0) := (blk_cell R2 0).trans rfl
        have r2 : w2.cell? ⟨w.heap.size, 1, none⟩ = some (.int .i64 0) := (blk_cell R2 1).trans rfl
        have r3 : w2.cell? ⟨w.heap.size, 2, none⟩ = some (.int .i64 0) := (blk_cell R2 2).trans rfl
        have f1 := blk_frozen R2 0
        have f2 := blk_frozen R2 1
        have f3 := blk_frozen R2 2
        have HB2 := Lib.hid (HB1.out.trans (hb.mono HB1.out.size))
        clear hb R2
        go_wp2
        refine bodyPost_ret (v := .tuple #[.agg #[.int .i64 id, .int .i64 (evE l (id, 0)).1, .int .i64 (evE l (id, 0)).2], .int .i64 0]) ?_ rfl ⟨rfl, ?_⟩
        · simp [results, Try.results68, go_sem, r1, r2, r3, evE]
        · exact below_set (below_set (below_set HB2.out (Nat.le_refl _)) (Nat.le_refl _)) (Nat.le_refl _)
end Go.Proofs.Ytdppmkcahfjceaa.Fl
end
section
/-
  share.apart walked: have all shares their own number, 1 to 64? With a map[int]bool that the call makes. By an AI agent.
-/
namespace Go.Proofs.Ytdppmkcahfjceaa.Fl
open Flt
open Go.RowKit Go.Proofs.YtdppmkcahfjceaaW.PrintWords Go.Proofs.YtdppmkcahfjceaaW.PrintLast Go.Proofs.YtdppmkcahfjceaaW.PrintMore
open Go.Maps (Keyed IsMap)
open Go.ChangeMaps
set_option linter.unusedVariables false
set_option linter.unusedSimpArgs false

/-- An element that reads as a bool's datum is that bool. -/
theorem plainElem_bool_inv {H : Type} {P : Program} {e : TypeId} (he : P.underlying e = some .bool) {v : Value} {z : DataW H × List MemPlace} (h : plainElem P e v = some z) : ∃ x, v = .bool x ∧ z = (.lit (.bool x), []) := by
  unfold plainElem at h
  rw [he] at h
  cases v <;> simp at h
  subst h
  exact ⟨_, rfl, rfl⟩
theorem look_bool {H : Type} {P : Program} {k : TypeId} {w : World} {b n : Nat} {D : DataW H} {t e : TypeId} (h : w.ownsMap P k (plainElem P e) b n D) (K : Keyed P k) (ht : P.underlying t = some (.map k e)) (he : P.underlying e = some .bool) (hz : (zeroValue e).run P w = .ok (.bool false) w)
    {key : Value} {kl : Lit} (hkey : keyOf P k key = some kl) : ∃ x, (Instr.lookup t (.map (some b)) key false).run P w = .ok (.bool x) w ∧ D.atKey kl (.lit (.bool false)) = .lit (.bool x) := by
  obtain ⟨v, ps, hrun, hv⟩ := h.lookup K ht hz (plainElem_bool he false) hkey
  obtain ⟨x, rfl, hc⟩ := plainElem_bool_inv he hv
  exact ⟨x, hrun, (Prod.mk.inj hc).1⟩

/-- is a number among the first k? -/
def seenB (l : List (Int × Gm.E)) (k : Nat) (v : Int) : Bool := decide (∃ j, j < k ∧ (l.getD j (0, (0, 0))).1 = v)
def apFrom (l : List (Int × Gm.E)) : Nat → Nat → Bool
  | 0, _ => true
  | r + 1, i => if (l.getD i (0, (0, 0))).1 < 1 then false else if (l.getD i (0, (0, 0))).1 > 64 then false else if seenB l i (l.getD i (0, (0, 0))).1 = true then false else apFrom l r (i + 1)
def apB (l : List (Int × Gm.E)) : Bool := apFrom l l.length 0
theorem seenB_succ (l : List (Int × Gm.E)) (k : Nat) (v : Int) : seenB l (k + 1) v = (seenB l k v || decide ((l.getD k (0, (0, 0))).1 = v)) := by
  unfold seenB
  rw [Bool.eq_iff_iff]
  simp only [decide_eq_true_eq, Bool.or_eq_true]
  constructor
  · rintro ⟨j, h1, h2⟩
    by_cases e : j = k
    · subst e; exact .inr h2
    · exact .inl ⟨j, by omega, h2⟩
  · rintro (⟨j, h1, h2⟩ | h)
    · exact ⟨j, by omega, h2⟩
    · exact ⟨k, by omega, h⟩

theorem law_int : Keyed Try.prog 3 := Go.Maps.int_keyed Try.underlying3
theorem zero_bool (w : World) : (zeroValue 4).run Try.prog w = .ok (.bool false) w := by kernel_rfl
theorem wf_small {v : Int} (h1 : ¬ v < 1) (h2 : ¬ v > 64) : (Lit.int .i64 v).wf = true := by
  simp [Lit.wf, IntKind.min, IntKind.max, IntKind.signed, IntKind.bits]
  omega

theorem intOf_mk (n : Int) : intOf (Value.int .i64 n) = n := rfl
theorem meas {n kk : Nat} (hlt : kk < n) (hw : wrap64 ((kk : Int) + 1) = ((kk + 1 : Nat) : Int)) : n - (intOf (Value.int .i64 (wrap64 ((kk : Int) + 1)))).toNat < n - (intOf (Value.int .i64 (kk : Int))).toNat := by
  rw [intOf_mk, intOf_mk, hw, Int.toNat_natCast, Int.toNat_natCast]
  exact Nat.sub_lt_sub_left hlt (Nat.lt_succ_self kk)

set_option maxHeartbeats 8000000 in
set_option maxRecDepth 100000 in
theorem apart_c (A : Option Addr) (c : Nat) (l : List (Int × Gm.E)) (w : World) (hr : RowS w A l) (hlen : l.length ≤ 9223372036854775807) :
    Calls Try.prog 117 #[.slice A l.length c] w fun e w' => e = .returned (.bool (apB l)) ∧ Below w.heap.size w w' := by
  have hmm := @run_makeMap Try.prog
  have HR := Lib.hid hr
  have HL := Lib.hid hlen
  clear hr hlen
  go_enter Try.func117, Try.ntmps117
  go_wp2
  go_loopw [9] (fun i wr => ∃ (k : Nat) (D : DataW Unit), k ≤ l.length ∧ i = .int .i64 k ∧ wr.ownsMap Try.prog 3 (plainElem Try.prog 4) w.heap.size k D ∧ Hid (∀ v : Int, (Lit.int .i64 v).wf = true → D.atKey (.int .i64 v) (.lit (.bool false)) = .lit (.bool (seenB l k v))) ∧ Hid (apFrom l (l.length - k) k = apB l) ∧ Below w.heap.size w wr)
    (fun i _ => l.length - (intOf i).toNat)
  case atStart => exact ⟨0, .map [], Nat.zero_le _, rfl, World.ownsMap_made _ _ _ _, Lib.hid (fun v _ => by
    have : seenB l 0 v = false := decide_eq_false (by rintro ⟨j, h, _⟩; omega)
    rw [this]; rfl), Lib.hid rfl, (Below.refl _ _).alloc (Nat.le_refl _) _⟩
  case round =>
    obtain ⟨kk, D, hkk, rfl, hown, HS, HF, BW⟩ := hrel
    by_cases hlt : kk < l.length
    · have hltz := eq_true (show (kk : Int) < (l.length : Int) by omega)
      have p147 := eq_true (show 0 ≤ (kk : Int) by omega)
      obtain ⟨ad147, e147, hx0, hx1, hx2⟩ := HR.out kk hlt
      cases e147
      replace hx0 := (BW.cell (World.block_lt_of_cell? w _ hx0)).trans hx0
      replace hx1 := (BW.cell (World.block_lt_of_cell? w _ hx1)).trans hx1
      replace hx2 := (BW.cell (World.block_lt_of_cell? w _ hx2)).trans hx2
      have FI := HF.out
      rw [show l.length - kk = (l.length - (kk + 1)) + 1 by omega, apFrom] at FI
      have HSn := HS.out
      have hsucc := seenB_succ l kk
      generalize hy : l.getD kk (0, (0, 0)) = y at hx0 hx1 hx2 FI hsucc
      have tn : ((kk : Int)).toNat = kk := Int.toNat_natCast kk
      clear hy HS
      by_cases h1 : y.1 < 1
      · rw [if_pos h1] at FI
        have d1 : decide (y.1 < 1) = true := decide_eq_true h1
        have HF' := Lib.hid FI
        have BW' := Lib.hid BW
        clear FI HSn hsucc h1 HF BW
        go_wp2
        go_ret
        exact ⟨congrArg (fun z => Ending.returned (Value.bool z)) HF'.out, BW'.out.alloc BW'.out.size _⟩
      · rw [if_neg h1] at FI
        have d1 : decide (y.1 < 1) = false := decide_eq_false h1
        by_cases h2 : y.1 > 64
        · rw [if_pos h2] at FI
          have d2 : decide (y.1 > 64) = true := decide_eq_true h2
          have HF' := Lib.hid FI
          have BW' := Lib.hid BW
          clear FI HSn hsucc h1 h2 HF BW
          go_wp2
          go_ret
          exact ⟨congrArg (fun z => Ending.returned (Value.bool z)) HF'.out, BW'.out.alloc BW'.out.size _⟩
        · rw [if_neg h2] at FI
          have d2 : decide (y.1 > 64) = false := decide_eq_false h2
          have hwf := wf_small h1 h2
          have hkey : keyOf Try.prog 3 (.int .i64 y.1) = some (.int .i64 y.1) := Go.Maps.keyOf_int_mk Try.underlying3 hwf
          have hownA := hown.alloc (.cells #[.int .i64 y.1, .int .i64 y.2.1, .int .i64 y.2.2] 104)
          obtain ⟨x, hlook, hat⟩ := look_bool hownA law_int Try.underlying177 Try.underlying4 (zero_bool _) hkey
          have hx : x = seenB l kk y.1 := by
            rw [HSn y.1 hwf] at hat
            simpa using hat.symm
          cases x with
          | true =>
            rw [if_pos hx.symm] at FI
            have HF' := Lib.hid FI
            have BW' := Lib.hid BW
            clear FI HSn hsucc h1 h2 HF BW hat hx hkey hown hownA hwf
            go_wp2
            go_ret
            exact ⟨congrArg (fun z => Ending.returned (Value.bool z)) HF'.out, BW'.out.alloc BW'.out.size _⟩
          | false =>
            rw [if_neg (by rw [← hx]; decide)] at FI
            have hw : wrap64 ((kk : Int) + 1) = ((kk + 1 : Nat) : Int) := by have := HL.out; rw [Go.IntWalk.wrap64_in _ (by omega)]; omega
            have hmapD : IsMap D := hown.isMap
            have HS' := Lib.hid (show ∀ v : Int, (Lit.int .i64 v).wf = true → (D.put (.int .i64 y.1) (.lit (.bool true))).atKey (.int .i64 v) (.lit (.bool false)) = .lit (.bool (seenB l (kk + 1) v)) from fun v hv => by
              rw [hsucc]
              by_cases e : v = y.1
              · subst e
                rw [Go.Maps.atKey_put_same hmapD (show WideAt.IsKeyLit (.int .i64 y.1) from trivial)]
                simp
              · rw [Go.Maps.atKey_put_other (by intro h; injection h with _ h; exact e h), HSn v hv, show decide (y.1 = v) = false from decide_eq_false (fun h => e h.symm), Bool.or_false])
            have HF' := Lib.hid FI
            have HB' := Lib.hid BW
            clear FI HSn hsucc h1 h2 HF BW hat hx hwf hown hmapD
            go_wp2_with (first
              | (at_mapUpdate; refine wpList_mapUpdate_own _ rfl _ _ _ 177 rfl 3 4 law_int Try.underlying177 _ w.heap.size kk _ rfl hownA (by have := HL.out; unfold maxLen; omega) _ _ _ rfl rfl hkey _ [] (plainElem_bool Try.underlying4 true) ?_; intro w1 hown1 hgrow1)
              | go_in)
            go_roundw
            case rel => exact ⟨kk + 1, _, by omega, by first | exact congrArg _ hw | go_num, hown1, HS', HF', (HB'.out.alloc HB'.out.size _).grown hgrow1 (HB'.out.alloc HB'.out.size _).size (fun j hj => by cases hj; exact Nat.le_refl _)⟩
            case measure => exact meas hlt hw
    · have hltz := eq_false (show ¬ (kk : Int) < (l.length : Int) by omega)
      have FI := HF.out
      rw [show l.length - kk = 0 by omega, apFrom] at FI
      have HF' := Lib.hid FI
      have HB' := Lib.hid BW
      clear FI HS HF BW
      go_wp2
      go_ret
      exact ⟨congrArg (fun z => Ending.returned (Value.bool z)) HF'.out, HB'.out⟩
end Go.Proofs.Ytdppmkcahfjceaa.Fl
end
section
/-
  share.Open walked: what shares open. By an AI agent.
-/
namespace Go.Proofs.Ytdppmkcahfjceaa.Fl
open Flt
open Go.RowKit Go.Proofs.YtdppmkcahfjceaaW.PrintWords Go.Proofs.YtdppmkcahfjceaaW.PrintLast Go.Proofs.YtdppmkcahfjceaaW.PrintMore
set_option linter.unusedVariables false
set_option linter.unusedSimpArgs false

def oddS (l : List (Int × Gm.E)) : Bool := decide (0 ≤ ix (fun i => (fun x : Int × Gm.E => !mayB x.2.1 x.2.2) (l.getD i (0, (0, 0)))) l.length)
/-- what is opened from place i on, beside o; wt: by what a share counts -/
def sumFrom (l : List (Int × Gm.E)) (wt : Nat → Gm.E) : Nat → Nat → Gm.E → Gm.E
  | 0, _, o => o
  | r + 1, i, o => sumFrom l wt r (i + 1) (opE Gm.add o (opE Gm.mul (l.getD i (0, (0, 0))).2 (wt i)))
def openE (l : List (Int × Gm.E)) (wt : Nat → Gm.E) : Gm.E × Int := if l.length = 0 then ((0, 0), 1) else if apB l = false then ((0, 0), 1) else if oddS l = true then ((0, 0), 1) else (sumFrom l wt l.length 0 (0, 0), 0)
theorem rowS_below {W W' : World} {A : Option Addr} {l : List (Int × Gm.E)} (h : RowS W A l) (hb : Below W.heap.size W W') : RowS W' A l := by
  intro i hi
  obtain ⟨ad, e, h0, h1, h2⟩ := h i hi
  exact ⟨ad, e, (hb.cell (World.block_lt_of_cell? W _ h0)).trans h0, (hb.cell (World.block_lt_of_cell? W _ h1)).trans h1, (hb.cell (World.block_lt_of_cell? W _ h2)).trans h2⟩

set_option maxHeartbeats 8000000 in
set_option maxRecDepth 100000 in
/-- The ways on which nothing is opened. -/
theorem open_no (A : Option Addr) (c : Nat) (l : List (Int × Gm.E)) (w : World) (hr : RowS w A l) (hlen : l.length ≤ 9223372036854775807) (hno : l.length = 0 ∨ apB l = false ∨ oddS l = true) :
    Calls Try.prog 75 #[.slice A l.length c] w fun e w' => e = .returned (.tuple #[.agg #[.int .i64 0, .int .i64 0], .int .i64 1]) ∧ Below w.heap.size w w' := by
  have B0 : Below w.heap.size w (w.alloc (.cells #[.int .i64 0, .int .i64 0] 23)) := (Below.refl _ _).alloc (Nat.le_refl _) _
  have R0 : (w.alloc (.cells #[.int .i64 0, .int .i64 0] 23)).heap[w.heap.size]? = some (.cells #[.int .i64 0, .int .i64 0] 23 (0, 0)) := new_ _ _ rfl
  by_cases h0 : l.length = 0
  · have d0 : (((l.length : Nat) : Int) == 0) = true := by rw [h0]; rfl
    have HB0 := Lib.hid B0
    clear hr hlen hno R0 B0 h0
    go_enter Try.func75, Try.ntmps75
    go_wp2
    refine bodyPost_ret (v := .tuple #[.agg #[.int .i64 0, .int .i64 0], .int .i64 1]) ?_ rfl ⟨rfl, HB0.out⟩
    simp [results, Try.results75, go_sem]
  · have d0 : (((l.length : Nat) : Int) == 0) = false := by rw [beq_eq_false_iff_ne]; omega
    have HA := Lib.hid (apart_c A c l _ (rowS_below hr B0) hlen)
    have HR := Lib.hid (rowS_below hr B0)
    have HL := Lib.hid hlen
    have HB0 := Lib.hid B0
    have HR0 := Lib.hid R0
    cases h1 : apB l with
    | false =>
      rw [h1] at HA
      clear hr hlen hno R0 B0 h0 h1
      go_enter Try.func75, Try.ntmps75
      go_wp2_with fail
      refine HA.out.mono ?_
      rintro e w1 ⟨rfl, hb⟩
      have R1 := blk_below HR0.out hb
      have r1 : w1.cell? ⟨w.heap.size, 0, none⟩ = some (.int .i64 0) := (blk_cell R1 0).trans rfl
      have r2 : w1.cell? ⟨w.heap.size, 1, none⟩ = some (.int .i64 0) := (blk_cell R1 1).trans rfl
      have f1 := blk_frozen R1 0
      have f2 := blk_frozen R1 1
      have HB1 := Lib.hid (HB0.out.trans (hb.mono HB0.out.size))
      clear hb R1
      go_wp2
      refine bodyPost_ret (v := .tuple #[.agg #[.int .i64 0, .int .i64 0], .int .i64 1]) ?_ rfl ⟨rfl, ?_⟩
      · simp [results, Try.results75, go_sem, r1, r2]
      · exact below_set (below_set HB1.out (Nat.le_refl _)) (Nat.le_refl _)
    | true =>
      have h2 : oddS l = true := by
        rcases hno with h | h | h
        · exact absurd h h0
        · rw [h1] at h; cases h
        · exact h
      rw [h1] at HA
      have HO := Lib.hid h2
      clear hr hlen hno R0 B0 h0 h1 h2
      go_enter Try.func75, Try.ntmps75
      go_wp2_with fail
      refine HA.out.mono ?_
      rintro e w1 ⟨rfl, hb⟩
      have R1 := Lib.hid (blk_below HR0.out hb)
      have HB1 := Lib.hid (HB0.out.trans (hb.mono HB0.out.size))
      have HC := contains_share A c l 116 (fun x => !mayB x.2.1 x.2.2) w1 (rowS_below HR.out hb) (by have := HL.out; omega) (enters_c Try.func116 rfl rfl) (fun W x => open_odd x.1 x.2.1 x.2.2 W)
      have h2 := HO.out
      unfold oddS at h2
      rw [h2] at HC
      have HC := Lib.hid HC
      clear hb h2
      go_wp2_with fail
      refine HC.out.mono ?_
      rintro e w2 ⟨rfl, hb⟩
      have R2 := blk_below R1.out hb
      have r1 : w2.cell? ⟨w.heap.size, 0, none⟩ = some (.int .i64 0) := (blk_cell R2 0).trans rfl
      have r2 : w2.cell? ⟨w.heap.size, 1, none⟩ = some (.int .i64 0) := (blk_cell R2 1).trans rfl
      have f1 := blk_frozen R2 0
      have f2 := blk_frozen R2 1
      have HB2 := Lib.hid (HB1.out.trans (hb.mono HB1.out.size))
      clear hb R2
      go_wp2
      refine bodyPost_ret (v := .tuple #[.agg #[.int .i64 0, .int .i64 0], .int .i64 1]) ?_ rfl ⟨rfl, ?_⟩
      · simp [results, Try.results75, go_sem, r1, r2]
      · exact below_set (below_set HB2.out (Nat.le_refl _)) (Nat.le_refl _)

set_option maxHeartbeats 16000000 in
set_option maxRecDepth 100000 in
theorem open_yes (A : Option Addr) (c : Nat) (l : List (Int × Gm.E)) (wt : Nat → Gm.E) (w : World) (hr : RowS w A l) (hlen : l.length ≤ 9223372036854775807) (h0 : l.length ≠ 0) (h1 : apB l = true) (h2 : oddS l = false)
    (hw : ∀ k, k < l.length → ∀ W, Below w.heap.size w W → Calls Try.prog 121 #[.slice A l.length c, .int .i64 k] W fun e w' => e = .returned (.agg #[.int .i64 (wt k).1, .int .i64 (wt k).2]) ∧ Below W.heap.size W w') :
    Calls Try.prog 75 #[.slice A l.length c] w fun e w' => e = .returned (.tuple #[.agg #[.int .i64 (sumFrom l wt l.length 0 (0, 0)).1, .int .i64 (sumFrom l wt l.length 0 (0, 0)).2], .int .i64 0]) ∧ Below w.heap.size w w' := by
  have B0 : Below w.heap.size w (w.alloc (.cells #[.int .i64 0, .int .i64 0] 23)) := (Below.refl _ _).alloc (Nat.le_refl _) _
  have R0 : (w.alloc (.cells #[.int .i64 0, .int .i64 0] 23)).heap[w.heap.size]? = some (.cells #[.int .i64 0, .int .i64 0] 23 (0, 0)) := new_ _ _ rfl
  have d0 : (((l.length : Nat) : Int) == 0) = false := by rw [beq_eq_false_iff_ne]; omega
  have HA := Lib.hid (apart_c A c l _ (rowS_below hr B0) hlen)
  have HR := Lib.hid hr
  have HL := Lib.hid hlen
  have HB0 := Lib.hid B0
  have HR0 := Lib.hid R0
  have HW := Lib.hid hw
  rw [h1] at HA
  have HO := Lib.hid h2
  clear hr hlen R0 B0 h0 h1 h2 hw
  go_enter Try.func75, Try.ntmps75
  go_wp2_with fail
  refine HA.out.mono ?_
  rintro e w1 ⟨rfl, hb⟩
  have R1 := Lib.hid (blk_below HR0.out hb)
  have HB1 := Lib.hid (HB0.out.trans (hb.mono HB0.out.size))
  have HC := contains_share A c l 116 (fun x => !mayB x.2.1 x.2.2) w1 (rowS_below HR.out HB1.out) (by have := HL.out; omega) (enters_c Try.func116 rfl rfl) (fun W x => open_odd x.1 x.2.1 x.2.2 W)
  have h2 := HO.out
  unfold oddS at h2
  rw [h2] at HC
  have HC := Lib.hid HC
  clear hb h2
  go_wp2_with fail
  refine HC.out.mono ?_
  rintro e w2 ⟨rfl, hb⟩
  have R2 := Lib.hid (blk_below R1.out hb)
  have HB2 := Lib.hid (HB1.out.trans (hb.mono HB1.out.size))
  have hlt2 : w.heap.size < w2.heap.size := blk_lt R2.out
  have HS := Lib.hid hlt2
  clear hb hlt2 HC HA
  go_wp2
  generalize hob : w2.heap.size = ob
  go_loopg [6, 23] l.length (fun gg _ s8 wr => ∃ (kk : Nat) (o : Gm.E), kk ≤ l.length ∧ l.length - kk ≤ gg ∧ s8 = .int .i64 kk ∧ Aside0 (Below w.heap.size w wr) ∧ Aside0 (wr.heap[w.heap.size]? = some (.cells #[.int .i64 0, .int .i64 0] 23 (0, 0))) ∧ Aside0 (wr.heap[ob]? = some (.cells #[.int .i64 o.1, .int .i64 o.2] 23 (0, 0))) ∧ Aside0 (sumFrom l wt (l.length - kk) kk o = sumFrom l wt l.length 0 (0, 0)))
  case atStart =>
    subst hob
    exact ⟨0, (0, 0), Nat.zero_le _, by omega, rfl, ⟨HB2.out.alloc HB2.out.size _⟩, ⟨blk_alloc R2.out _⟩, ⟨new_ _ _ rfl⟩, ⟨rfl⟩⟩
  case round =>
    obtain ⟨kk, o, hkk, hg, rfl, HB, BR, BO, FI⟩ := hrel
    have GO := Lib.hid (show w.heap.size ≤ ob by rw [← hob]; exact HB2.out.size)
    have NE := Lib.hid (show w.heap.size ≠ ob by rw [← hob]; have := HS.out; omega)
    clear hob
    by_cases hlt : kk < l.length
    · have hltz := eq_true (show (kk : Int) < (l.length : Int) by omega)
      have p147 := eq_true (show 0 ≤ (kk : Int) by omega)
      obtain ⟨ad147, e147, hx0, hx1, hx2⟩ := HR.out kk hlt
      cases e147
      have hw1 := hx1
      have hw2 := hx2
      replace hx0 := (HB.out.cell (World.block_lt_of_cell? w _ hx0)).trans hx0
      replace hx1 := (HB.out.cell (World.block_lt_of_cell? w _ hx1)).trans hx1
      replace hx2 := (HB.out.cell (World.block_lt_of_cell? w _ hx2)).trans hx2
      have FI' := FI.out
      rw [show l.length - kk = (l.length - (kk + 1)) + 1 by omega, sumFrom] at FI'
      generalize hy : l.getD kk (0, (0, 0)) = y at hx0 hx1 hx2 hw1 hw2 FI'
      have tn : ((kk : Int)).toNat = kk := Int.toNat_natCast kk
      have HF := Lib.hid FI'
      have hwr : wrap64 ((kk : Int) + 1) = ((kk + 1 : Nat) : Int) := by have := HL.out; rw [Go.IntWalk.wrap64_in _ (by omega)]; omega
      clear hy FI FI'
      go_wp2_with fail
      have BR := Aside0.mk (blk_drew BR.out)
      have BO := Aside0.mk (blk_drew BO.out)
      have HB := Aside0.mk (below_drew1 HB.out)
      refine start_ (n := 12) (S := fun w' => w'.cell? ⟨ob, 0, none⟩ = some (.int .i64 o.1) ∧ w'.cell? ⟨ob, 1, none⟩ = some (.int .i64 o.2) ∧ w'.cell? ⟨(ad147.add (kk * 3)).block, (ad147.add (kk * 3)).off + 1, none⟩ = some (.int .i64 y.2.1) ∧ w'.cell? ⟨(ad147.add (kk * 3)).block, (ad147.add (kk * 3)).off + 2, none⟩ = some (.int .i64 y.2.2)) (ds := [11]) #[false, false, false, false, false, false, false, false, false, false, false, false] (by kernel_rfl) rfl rfl ⟨(blk_cell BO.out 0).trans rfl, (blk_cell BO.out 1).trans rfl, ((HB.out.cell (World.block_lt_of_cell? w _ hw1)).trans hw1), ((HB.out.cell (World.block_lt_of_cell? w _ hw2)).trans hw2)⟩ (fun hHeld => ?_)
      generalize wr.drew = w14 at BR BO HB hx0 hx1 hx2 hHeld ⊢
      refine pure_ (i := 1) (N := some 27) (v := ?_) (a' := ?_) #[false, true, false, false, false, false, false, false, false, false, false, false] rfl rfl (by kernel_rfl) (fun _ _ _ h => h) (Or.inl ⟨by rfl, ?_⟩) ?_ ?_
      rotate_left
      · intro w'
        go_simp
        with_reducible rfl
      rotate_left
      · simp only [Act.put, List.setIfInBounds_toArray, List.set_cons_zero, List.set_cons_succ, i64_w, i32_w]
        rfl
      refine pure_ (i := 2) (N := some 28) (v := ?_) (a' := ?_) #[false, true, true, false, false, false, false, false, false, false, false, false] rfl rfl (by kernel_rfl) (fun _ _ _ h => h) (Or.inl ⟨by rfl, ?_⟩) ?_ ?_
      rotate_left
      · intro w'
        go_simp
        with_reducible rfl
      rotate_left
      · simp only [Act.put, List.setIfInBounds_toArray, List.set_cons_zero, List.set_cons_succ, i64_w, i32_w]
        rfl
      refine pure_ (i := 3) (N := some 29) (v := ?_) (a' := ?_) #[false, true, true, true, false, false, false, false, false, false, false, false] rfl rfl (by kernel_rfl) (fun _ _ _ h => h) (Or.inl ⟨by rfl, ?_⟩) ?_ ?_
      rotate_left
      · intro w'
        go_simp
        with_reducible rfl
      rotate_left
      · simp only [Act.put, List.setIfInBounds_toArray, List.set_cons_zero, List.set_cons_succ, i64_w, i32_w]
        rfl
      refine pure_ (i := 4) (N := some 30) (v := ?_) (a' := ?_) #[false, true, true, true, true, false, false, false, false, false, false, false] rfl rfl (by kernel_rfl) (fun _ _ _ h => h) (Or.inl ⟨by rfl, ?_⟩) ?_ ?_
      rotate_left
      · intro w'
        go_simp
        with_reducible rfl
      rotate_left
      · simp only [Act.put, List.setIfInBounds_toArray, List.set_cons_zero, List.set_cons_succ, i64_w, i32_w]
        rfl
      refine pure_ (i := 6) (N := some 32) (v := ?_) (a' := ?_) #[false, true, true, true, true, false, true, false, false, false, false, false] rfl rfl (by kernel_rfl) (fun _ _ _ h => h) (Or.inl ⟨by rfl, ?_⟩) ?_ ?_
      rotate_left
      · intro w'
        go_simp
        with_reducible rfl
      rotate_left
      · simp only [Act.put, List.setIfInBounds_toArray, List.set_cons_zero, List.set_cons_succ, i64_w, i32_w]
        rfl
      refine pure_ (i := 7) (N := some 33) (v := ?_) (a' := ?_) #[false, true, true, true, true, false, true, true, false, false, false, false] rfl rfl (by kernel_rfl) (fun _ _ _ h => h) (Or.inl ⟨by rfl, ?_⟩) ?_ ?_
      rotate_left
      · intro w'
        go_simp
        with_reducible rfl
      rotate_left
      · simp only [Act.put, List.setIfInBounds_toArray, List.set_cons_zero, List.set_cons_succ, i64_w, i32_w]
        rfl
      refine take_ (i := 0) (N := some 26) (v := ?_) (a' := ?_) #[true, true, true, true, true, false, true, true, false, false, false, false] rfl rfl (by kernel_rfl) (fun _ _ _ h => h) (Or.inl ⟨by rfl, ?_⟩) hHeld ?_ ?_
      rotate_left
      · rintro w' ⟨s0, s1, s2, s3⟩
        go_simp
        with_reducible rfl
      rotate_left
      · simp only [Act.put, List.setIfInBounds_toArray, List.set_cons_zero, List.set_cons_succ, i64_w, i32_w]
        rfl
      refine take_ (i := 5) (N := some 31) (v := ?_) (a' := ?_) #[true, true, true, true, true, true, true, true, false, false, false, false] rfl rfl (by kernel_rfl) (fun _ _ _ h => h) (Or.inl ⟨by rfl, ?_⟩) hHeld ?_ ?_
      rotate_left
      · rintro w' ⟨s0, s1, s2, s3⟩
        go_simp
        with_reducible rfl
      rotate_left
      · simp only [Act.put, List.setIfInBounds_toArray, List.set_cons_zero, List.set_cons_succ, i64_w, i32_w]
        rfl
      refine one_ (i := 8) (N := some 34) #[true, true, true, true, true, true, true, true, true, false, false, false] rfl rfl (by kernel_rfl) (by decide) (fun K hK => ?_)
      refine goes_ Try.func121 (by kernel_rfl) rfl #[.slice (some ad147) l.length c, .int .i64 kk] (by rfl) rfl rfl (by (try simp only [List.map_toArray, List.map_cons, List.map_nil]); first | done | rfl) ?_
      refine (HW.out kk hlt _ HB.out).mono ?_
      rintro e wq8 ⟨rfl, hb⟩
      refine ⟨_, rfl, ?_⟩
      have n1_ := Aside0.mk (blk_below BR.out hb)
      have n2_ := Aside0.mk (blk_below BO.out hb)
      have n3_ := Aside0.mk (below_step HB.out hb)
      clear BR BO HB
      have BR := n1_
      have BO := n2_
      have HB := n3_
      clear n1_ n2_ n3_ hb
      refine hK.out _ _ ⟨(blk_cell BO.out 0).trans rfl, (blk_cell BO.out 1).trans rfl, ((HB.out.cell (World.block_lt_of_cell? w _ hw1)).trans hw1), ((HB.out.cell (World.block_lt_of_cell? w _ hw2)).trans hw2)⟩ (fun hHeld => ?_)
      clear hK K
      refine norm_ (a' := ?_) ?_ ?_
      rotate_left
      · show Act.put _ (some 34) _ = _
        simp only [Act.put, List.setIfInBounds_toArray, List.set_cons_zero, List.set_cons_succ, i64_w, i32_w]
        rfl
      refine one_ (i := 9) (N := some 35) #[true, true, true, true, true, true, true, true, true, true, false, false] rfl rfl (by kernel_rfl) (by decide) (fun K hK => ?_)
      refine goes_ Try.func120 (by kernel_rfl) rfl #[.agg #[.int .i64 y.2.1, .int .i64 y.2.2], .agg #[.int .i64 (wt kk).1, .int .i64 (wt kk).2]] (by rfl) rfl rfl (by (try simp only [List.map_toArray, List.map_cons, List.map_nil]); first | done | rfl) ?_
      refine (mul_c y.2.1 y.2.2 (wt kk).1 (wt kk).2 _).mono ?_
      rintro e wq9 ⟨rfl, hb⟩
      refine ⟨_, rfl, ?_⟩
      have n1_ := Aside0.mk (blk_below BR.out hb)
      have n2_ := Aside0.mk (blk_below BO.out hb)
      have n3_ := Aside0.mk (below_step HB.out hb)
      clear BR BO HB
      have BR := n1_
      have BO := n2_
      have HB := n3_
      clear n1_ n2_ n3_ hb
      refine hK.out _ _ ⟨(blk_cell BO.out 0).trans rfl, (blk_cell BO.out 1).trans rfl, ((HB.out.cell (World.block_lt_of_cell? w _ hw1)).trans hw1), ((HB.out.cell (World.block_lt_of_cell? w _ hw2)).trans hw2)⟩ (fun hHeld => ?_)
      clear hK K
      refine norm_ (a' := ?_) ?_ ?_
      rotate_left
      · show Act.put _ (some 35) _ = _
        simp only [Act.put, List.setIfInBounds_toArray, List.set_cons_zero, List.set_cons_succ, i64_w, i32_w]
        rfl
      refine one_ (i := 10) (N := some 36) #[true, true, true, true, true, true, true, true, true, true, true, false] rfl rfl (by kernel_rfl) (by decide) (fun K hK => ?_)
      refine goes_ Try.func119 (by kernel_rfl) rfl #[.agg #[.int .i64 o.1, .int .i64 o.2], .agg #[.int .i64 (opE Gm.mul y.2 (wt kk)).1, .int .i64 (opE Gm.mul y.2 (wt kk)).2]] (by rfl) rfl rfl (by (try simp only [List.map_toArray, List.map_cons, List.map_nil]); first | done | rfl) ?_
      refine (add_c o.1 o.2 (opE Gm.mul y.2 (wt kk)).1 (opE Gm.mul y.2 (wt kk)).2 _).mono ?_
      rintro e wq10 ⟨rfl, hb⟩
      refine ⟨_, rfl, ?_⟩
      have n1_ := Aside0.mk (blk_below BR.out hb)
      have n2_ := Aside0.mk (blk_below BO.out hb)
      have n3_ := Aside0.mk (below_step HB.out hb)
      clear BR BO HB
      have BR := n1_
      have BO := n2_
      have HB := n3_
      clear n1_ n2_ n3_ hb
      refine hK.out _ _ ⟨(blk_cell BO.out 0).trans rfl, (blk_cell BO.out 1).trans rfl, ((HB.out.cell (World.block_lt_of_cell? w _ hw1)).trans hw1), ((HB.out.cell (World.block_lt_of_cell? w _ hw2)).trans hw2)⟩ (fun hHeld => ?_)
      clear hK K
      refine norm_ (a' := ?_) ?_ ?_
      rotate_left
      · show Act.put _ (some 36) _ = _
        simp only [Act.put, List.setIfInBounds_toArray, List.set_cons_zero, List.set_cons_succ, i64_w, i32_w]
        rfl
      refine last_ (i := 11) (N := none) #[true, true, true, true, true, true, true, true, true, true, true, true] rfl rfl (by kernel_rfl) (by decide) (fun K hK => ?_)
      have hs17 : wq10.cell? ⟨ob, 0, none⟩ = some (.int .i64 o.1) := (blk_cell BO.out 0).trans rfl
      have hfs17 := blk_frozen BO.out 0
      have hs18 : wq10.cell? ⟨ob, 1, none⟩ = some (.int .i64 o.2) := (blk_cell BO.out 1).trans rfl
      have hfs18 := blk_frozen BO.out 1
      refine skip_ (w1 := ?_) (by rfl) rfl ?_ ?_
      rotate_left
      · go_simp
        rfl
      refine hK.out _ _ ?_
      clear hK K
      refine done_ (by kernel_rfl) ?_
      try go_wp2
      go_roundg (l.length - (kk + 1))
      case measure => omega
      case rel =>
        refine ⟨kk + 1, opE Gm.add o (opE Gm.mul y.2 (wt kk)), by omega, by omega, by first | exact congrArg _ hwr | go_num, ⟨below_set (below_set HB.out GO.out) GO.out⟩, ⟨blk_far (blk_far BR.out NE.out _) NE.out _⟩, ⟨?_⟩, ⟨HF.out⟩⟩
        refine blk_put (cs := #[.int .i64 (opE Gm.add o (opE Gm.mul y.2 (wt kk))).1, .int .i64 o.2]) ?_ 1 _ rfl
        exact blk_put (cs := #[.int .i64 o.1, .int .i64 o.2]) BO.out 0 _ rfl
    · have hltz := eq_false (show ¬ (kk : Int) < (l.length : Int) by omega)
      have FI' := FI.out
      rw [show l.length - kk = 0 by omega, sumFrom] at FI'
      have HF := Lib.hid FI'
      have r1 : wr.cell? ⟨w.heap.size, 0, none⟩ = some (.int .i64 0) := (blk_cell BR.out 0).trans rfl
      have r2 : wr.cell? ⟨w.heap.size, 1, none⟩ = some (.int .i64 0) := (blk_cell BR.out 1).trans rfl
      have r3 := blk_frozen BR.out 0
      have r4 := blk_frozen BR.out 1
      have o1 : wr.cell? ⟨ob, 0, none⟩ = some (.int .i64 o.1) := (blk_cell BO.out 0).trans rfl
      have o2 : wr.cell? ⟨ob, 1, none⟩ = some (.int .i64 o.2) := (blk_cell BO.out 1).trans rfl
      clear FI FI' BR BO
      go_wp2
      refine bodyPost_ret (v := .tuple #[.agg #[.int .i64 o.1, .int .i64 o.2], .int .i64 0]) ?_ rfl ⟨by rw [HF.out], below_set (below_set HB.out (Nat.le_refl _)) (Nat.le_refl _)⟩
      simp [results, Try.results75, go_sem, r1, r2]

theorem open_c (A : Option Addr) (c : Nat) (l : List (Int × Gm.E)) (wt : Nat → Gm.E) (w : World) (hr : RowS w A l) (hlen : l.length ≤ 9223372036854775807)
    (hw : ∀ k, k < l.length → ∀ W, Below w.heap.size w W → Calls Try.prog 121 #[.slice A l.length c, .int .i64 k] W fun e w' => e = .returned (.agg #[.int .i64 (wt k).1, .int .i64 (wt k).2]) ∧ Below W.heap.size W w') :
    Calls Try.prog 75 #[.slice A l.length c] w fun e w' => e = .returned (.tuple #[.agg #[.int .i64 (openE l wt).1.1, .int .i64 (openE l wt).1.2], .int .i64 (openE l wt).2]) ∧ Below w.heap.size w w' := by
  unfold openE
  by_cases h0 : l.length = 0
  · rw [if_pos h0]
    exact open_no A c l w hr hlen (.inl h0)
  · rw [if_neg h0]
    by_cases h1 : apB l = false
    · rw [if_pos h1]
      exact open_no A c l w hr hlen (.inr (.inl h1))
    · rw [if_neg h1]
      by_cases h2 : oddS l = true
      · rw [if_pos h2]
        exact open_no A c l w hr hlen (.inr (.inr h2))
      · rw [if_neg h2]
        exact open_yes A c l wt w hr hlen h0 (by simpa using h1) (by simpa using h2) hw

/-- an inverse, as gauss.Inv gives it -/
def invE (x : Gm.E) : Gm.E := if Gm.Ok x then (if x = (0, 0) then (0, 0) else Gm.pow x Gm.NN) else (0, 0)
/-- by what a share counts, as share.weight reckons -/
def wtFrom (l : List (Int × Gm.E)) (own : Int) (k : Nat) : Nat → Nat → Gm.E → Gm.E
  | 0, _, o => o
  | r + 1, i, o => if i = k then wtFrom l own k r (i + 1) o else wtFrom l own k r (i + 1) (opE Gm.mul o (opE Gm.mul ((l.getD i (0, (0, 0))).1, 0) (invE (opE Gm.sub ((l.getD i (0, (0, 0))).1, 0) (own, 0)))))
def wtE (l : List (Int × Gm.E)) (k : Nat) : Gm.E := wtFrom l (l.getD k (0, (0, 0))).1 k l.length 0 (1, 0)
end Go.Proofs.Ytdppmkcahfjceaa.Fl
end
section
/-
  What shares open, in plain terms: the sum of the values times Lagrange's factors. By an AI agent.
-/
namespace Go.Proofs.Ytdppmkcahfjceaa.Fl
open Gm
set_option linter.unusedVariables false

theorem opE_of {f : E → E → E} {x y : E} (hx : Ok x) (hy : Ok y) : opE f x y = f x y := if_pos ⟨hx, hy⟩
theorem opE_okE {f : E → E → E} (hf : ∀ x y, Ok (f x y)) (x y : E) : Ok (opE f x y) := by
  unfold opE
  by_cases h : Ok x ∧ Ok y
  · rw [if_pos h]; exact hf x y
  · rw [if_neg h]; exact zero_ok
/-! ### a polynomial's value -/
theorem getD_ok {l : List E} (h : ∀ c ∈ l, Ok c) (i : Nat) : Ok (l.getD i (0, 0)) := by
  by_cases hi : i < l.length
  · rw [List.getD_eq_getElem?_getD, List.getElem?_eq_getElem hi]
    exact h _ (List.getElem_mem hi)
  · rw [List.getD_eq_getElem?_getD, List.getElem?_eq_none (by omega)]
    exact zero_ok
theorem evFrom_ev {l : List E} {x : E} (h : ∀ c ∈ l, Ok c) (hx : Ok x) : ∀ i, i ≤ l.length → evFrom l x i (ev (l.drop i) x) = ev l x
  | 0, _ => by rw [evFrom, List.drop_zero]
  | i + 1, hi => by
    have e : l.drop i = l.getD i (0, 0) :: l.drop (i + 1) := by
      rw [List.getD_eq_getElem?_getD, List.getElem?_eq_getElem (by omega)]
      exact List.drop_eq_getElem_cons (by omega)
    rw [evFrom, opE_of (ev_ok _ _) hx, opE_of (mul_ok _ _) (getD_ok h i)]
    have := evFrom_ev h hx i (by omega)
    rw [e, ev] at this
    exact this
theorem evE_ev {l : List E} {x : E} (h : ∀ c ∈ l, Ok c) (hx : Ok x) : evE l x = ev l x := by
  have := evFrom_ev h hx l.length (Nat.le_refl _)
  rw [List.drop_length] at this
  exact this
theorem mayB_eq (x : E) : mayB x.1 x.2 = decide (Ok x) := rfl
theorem oddE_iff (l : List E) : oddE l = false ↔ ∀ c ∈ l, Ok c := by
  unfold oddE
  rw [decide_eq_false_iff_not, ix_nonneg]
  constructor
  · intro h c hc
    obtain ⟨i, hi, rfl⟩ := List.getElem_of_mem hc
    refine Classical.byContradiction fun hn => h ⟨i, hi, ?_⟩
    rw [List.getD_eq_getElem?_getD, List.getElem?_eq_getElem hi]
    simp only [Option.getD_some, mayB_eq, Bool.not_eq_true', decide_eq_false_iff_not]
    exact hn
  · rintro h ⟨i, hi, hb⟩
    rw [List.getD_eq_getElem?_getD, List.getElem?_eq_getElem hi] at hb
    simp only [Option.getD_some, mayB_eq, Bool.not_eq_true', decide_eq_false_iff_not] at hb
    exact hb (h _ (List.getElem_mem hi))
theorem ofE_ok {l : List E} {id : Int} (h1 : 1 ≤ id) (h2 : id ≤ 64) (h : ∀ c ∈ l, Ok c) : ofE l id = ((id, ev l (id, 0)), 0) := by
  unfold ofE
  rw [if_neg (by omega), if_neg (by omega), (oddE_iff l).2 h, if_neg (by decide), evE_ev h (ok_int (by omega) (by omega))]

/-! ### shares -/
abbrev Row := List (Int × E)
def idAt (l : Row) (i : Nat) : Int := (l.getD i (0, (0, 0))).1
def vAt (l : Row) (i : Nat) : E := (l.getD i (0, (0, 0))).2
def xAt (l : Row) (i : Nat) : E := (idAt l i, 0)
/-- all have their own number, 1 to 64 -/
def Apart (l : Row) : Prop := ∀ j, j < l.length → 1 ≤ idAt l j ∧ idAt l j ≤ 64 ∧ ∀ i, i < j → idAt l i ≠ idAt l j
theorem apFrom_iff (l : Row) : ∀ r i, apFrom l r i = true ↔ ∀ j, i ≤ j → j < i + r → 1 ≤ idAt l j ∧ idAt l j ≤ 64 ∧ ∀ m, m < j → idAt l m ≠ idAt l j
  | 0, i => by
    rw [apFrom]
    exact ⟨fun _ j h1 h2 => by omega, fun _ => rfl⟩
  | r + 1, i => by
    rw [apFrom]
    show (if idAt l i < 1 then false else if idAt l i > 64 then false else if seenB l i (idAt l i) = true then false else apFrom l r (i + 1)) = true ↔ _
    have hs : seenB l i (idAt l i) = true ↔ ∃ m, m < i ∧ idAt l m = idAt l i := by
      unfold seenB
      rw [decide_eq_true_eq]
      exact Iff.rfl
    constructor
    · intro h j h1 h2
      split at h
      · cases h
      · split at h
        · cases h
        · split at h
          · cases h
          · rename_i a b c
            by_cases e : j = i
            · subst e
              exact ⟨by omega, by omega, fun m hm he => c (hs.2 ⟨m, hm, he⟩)⟩
            · exact (apFrom_iff l r (i + 1)).1 h j (by omega) (by omega)
    · intro h
      obtain ⟨a, b, c⟩ := h i (Nat.le_refl _) (by omega)
      rw [if_neg (by omega), if_neg (by omega), if_neg (fun h => by obtain ⟨m, h1, h2⟩ := hs.1 h; exact c m h1 h2)]
      exact (apFrom_iff l r (i + 1)).2 fun j h1 h2 => h j (by omega) (by omega)
theorem apB_iff (l : Row) : apB l = true ↔ Apart l := by
  unfold apB Apart
  rw [apFrom_iff]
  exact ⟨fun h j hj => h j (Nat.zero_le _) (by omega), fun h j _ hj => h j (by omega)⟩
theorem Apart.x_ok {l : Row} (h : Apart l) (i : Nat) (hi : i < l.length) : Ok (xAt l i) := by
  obtain ⟨a, b, _⟩ := h i hi
  exact ok_int (by omega) (by omega)
theorem Apart.inj {l : Row} (h : Apart l) (i j : Nat) (hi : i < l.length) (hj : j < l.length) (e : xAt l i = xAt l j) : i = j := by
  have e' : idAt l i = idAt l j := (Prod.mk.inj e).1
  rcases Nat.lt_trichotomy i j with hlt | rfl | hlt
  · exact absurd e' ((h j hj).2.2 i hlt)
  · rfl
  · exact absurd e'.symm ((h i hi).2.2 j hlt)
theorem Apart.ne0 {l : Row} (h : Apart l) (i : Nat) (hi : i < l.length) : xAt l i ≠ (0, 0) := by
  intro e
  have : idAt l i = 0 := (Prod.mk.inj e).1
  have := (h i hi).1
  omega
theorem sub_ne {x y : E} (hx : Ok x) (hy : Ok y) (h : x ≠ y) : sub x y ≠ (0, 0) := fun e => h (eq_of_sub hx hy e)
theorem invE_inv {x : E} (h : Ok x) (h0 : x ≠ (0, 0)) : invE x = inv x := by
  unfold invE inv
  rw [if_pos h, if_neg h0]
theorem wtFrom_pr {l : Row} (h : Apart l) {k : Nat} (hk : k < l.length) : ∀ r i, i + r = l.length → wtFrom l (idAt l k) k r i (pr (fac (xAt l) (0, 0) k) i) = pr (fac (xAt l) (0, 0) k) l.length
  | 0, i, hi => by rw [wtFrom, show i = l.length by omega]
  | r + 1, i, hi => by
    rw [wtFrom]
    have hs := wtFrom_pr h hk r (i + 1) (by omega)
    rw [pr] at hs
    by_cases e : i = k
    · rw [if_pos e]
      rw [show fac (xAt l) (0, 0) k i = (1, 0) from if_pos e, mul_one (pr_ok _ _)] at hs
      exact hs
    · rw [if_neg e]
      have ok := h.x_ok i (by omega)
      have okk := h.x_ok k hk
      have ne : xAt l i ≠ xAt l k := fun x => e (h.inj i k (by omega) hk x)
      rw [show fac (xAt l) (0, 0) k i = mul (xAt l i) (inv (sub (xAt l i) (xAt l k))) from by
        unfold fac; rw [if_neg e, sub_zero ok]] at hs
      have e2 : opE sub ((l.getD i (0, (0, 0))).1, 0) (idAt l k, 0) = sub (xAt l i) (xAt l k) := opE_of ok okk
      have e3 : opE mul ((l.getD i (0, (0, 0))).1, 0) (inv (sub (xAt l i) (xAt l k))) = mul (xAt l i) (inv (sub (xAt l i) (xAt l k))) := opE_of ok (inv_ok _)
      rw [e2, invE_inv (sub_ok _ _) (sub_ne ok okk ne), e3, opE_of (pr_ok _ _) (mul_ok _ _)]
      exact hs
theorem wtE_lag {l : Row} (h : Apart l) {k : Nat} (hk : k < l.length) : wtE l k = lag (xAt l) l.length (0, 0) k :=
  wtFrom_pr h hk l.length 0 (by omega)
theorem oddS_iff (l : Row) : oddS l = false ↔ ∀ i, i < l.length → Ok (vAt l i) := by
  unfold oddS
  rw [decide_eq_false_iff_not, ix_nonneg]
  constructor
  · intro h i hi
    refine Classical.byContradiction fun hn => h ⟨i, hi, ?_⟩
    simp only [mayB_eq, Bool.not_eq_true', decide_eq_false_iff_not]
    exact hn
  · rintro h ⟨i, hi, hb⟩
    simp only [mayB_eq, Bool.not_eq_true', decide_eq_false_iff_not] at hb
    exact hb (h i hi)
theorem sumFrom_sm {l : Row} {wt g : Nat → E} (hv : ∀ i, i < l.length → Ok (vAt l i)) (hw : ∀ i, i < l.length → Ok (wt i)) (hg : ∀ i, i < l.length → g i = mul (vAt l i) (wt i)) : ∀ r i, i + r = l.length → sumFrom l wt r i (sm g i) = sm g l.length
  | 0, i, hi => by rw [sumFrom, show i = l.length by omega]
  | r + 1, i, hi => by
    rw [sumFrom]
    have hs := sumFrom_sm hv hw hg r (i + 1) (by omega)
    rw [sm, hg i (by omega)] at hs
    have e : opE mul (l.getD i (0, (0, 0))).2 (wt i) = mul (vAt l i) (wt i) := opE_of (hv i (by omega)) (hw i (by omega))
    rw [e, opE_of (sm_ok _ _) (mul_ok _ _)]
    exact hs
/-- What shares that are apart open. -/
def secret (l : Row) : E := sm (fun k => mul (vAt l k) (lag (xAt l) l.length (0, 0) k)) l.length
theorem lag_ok (X : Nat → E) (n : Nat) (z : E) (k : Nat) : Ok (lag X n z k) := pr_ok _ _
theorem openE_yes {l : Row} (h0 : l.length ≠ 0) (h : Apart l) (hv : ∀ i, i < l.length → Ok (vAt l i)) : openE l (wtE l) = (secret l, 0) := by
  unfold openE
  rw [if_neg h0, (apB_iff l).2 h, if_neg (by decide), (oddS_iff l).2 hv, if_neg (by decide)]
  have := sumFrom_sm (wt := wtE l) (g := fun k => mul (vAt l k) (lag (xAt l) l.length (0, 0) k)) hv (fun i hi => by rw [wtE_lag h hi]; exact lag_ok _ _ _ _) (fun i hi => by rw [wtE_lag h hi]) l.length 0 (by omega)
  rw [show ((0, 0) : E) = sm (fun k => mul (vAt l k) (lag (xAt l) l.length (0, 0) k)) 0 from rfl, this]
  rfl
theorem openE_no {l : Row} (h : ¬ (l.length ≠ 0 ∧ Apart l ∧ ∀ i, i < l.length → Ok (vAt l i))) : openE l (wtE l) = ((0, 0), 1) := by
  unfold openE
  by_cases h0 : l.length = 0
  · rw [if_pos h0]
  · rw [if_neg h0]
    cases h1 : apB l with
    | false => rw [if_pos rfl]
    | true =>
      rw [if_neg (by decide)]
      cases h2 : oddS l with
      | true => rw [if_pos rfl]
      | false => exact absurd ⟨h0, (apB_iff l).1 h1, (oddS_iff l).1 h2⟩ h
/-- Shares of one polynomial open its value at 0. -/
theorem secret_of {l : Row} (h : Apart l) {f : E → E} (hk : OkF f) {n : Nat} (hn : n ≤ l.length) (hf : Pl n f) (hv : ∀ i, i < l.length → vAt l i = f (xAt l i)) : secret l = f (0, 0) := by
  have := lagrange (X := xAt l) (n := l.length) h.x_ok h.inj hk (pl_up hn hf) (0, 0) zero_ok
  rw [← this]
  unfold secret
  exact sm_congr fun i hi => by rw [hv i hi]

/-- The polynomial function that has the shares. -/
def interp (l : Row) (z : E) : E := sm (fun k => mul (vAt l k) (lag (xAt l) l.length z k)) l.length
theorem interp_ok (l : Row) : OkF (interp l) := fun x _ => sm_ok _ _
theorem pl_interp (l : Row) : Pl l.length (interp l) := pl_sm fun k hk => pl_scale _ (by
  have := pl_lag (xAt l) k l.length
  rw [if_pos hk] at this
  exact this)
theorem interp_at {l : Row} (h : Apart l) (hv : ∀ i, i < l.length → Ok (vAt l i)) {j : Nat} (hj : j < l.length) : interp l (xAt l j) = vAt l j := by
  unfold interp
  rw [sm_single hj (mul_ok _ _) (fun i hi hne => by rw [lag_at h.x_ok h.inj hj hi, if_neg (Ne.symm hne), mul_zero])]
  rw [lag_at h.x_ok h.inj hj hj, if_pos rfl, mul_one (hv j hj)]
theorem rev_at (l : Row) {i : Nat} (hi : i < l.length) : l.reverse.getD i (0, (0, 0)) = l.getD (l.length - 1 - i) (0, (0, 0)) := by
  rw [List.getD_eq_getElem?_getD, List.getD_eq_getElem?_getD, List.getElem?_reverse hi]
theorem Apart.rev {l : Row} (h : Apart l) : Apart l.reverse := by
  intro j hj
  rw [List.length_reverse] at hj
  have e : ∀ i, i < l.length → idAt l.reverse i = idAt l (l.length - 1 - i) := fun i hi => congrArg (·.1) (rev_at l hi)
  rw [e j hj]
  obtain ⟨a, b, _⟩ := h (l.length - 1 - j) (by omega)
  refine ⟨a, b, fun i hi => ?_⟩
  rw [e i (by omega)]
  intro he
  have := h.inj (l.length - 1 - i) (l.length - 1 - j) (by omega) (by omega) (by unfold xAt; rw [he])
  omega
theorem open_rev (l : Row) : openE l.reverse (wtE l.reverse) = openE l (wtE l) := by
  have hv : ∀ i, i < l.length → vAt l.reverse i = vAt l (l.length - 1 - i) := fun i hi => congrArg (·.2) (rev_at l hi)
  have hx : ∀ i, i < l.length → xAt l.reverse i = xAt l (l.length - 1 - i) := fun i hi => by
    unfold xAt idAt
    rw [rev_at l hi]
  by_cases h : l.length ≠ 0 ∧ Apart l ∧ ∀ i, i < l.length → Ok (vAt l i)
  · obtain ⟨h0, ha, hk⟩ := h
    rw [openE_yes h0 ha hk, openE_yes (by rw [List.length_reverse]; exact h0) ha.rev (fun i hi => by rw [List.length_reverse] at hi; rw [hv i hi]; exact hk _ (by omega))]
    rw [secret_of ha.rev (interp_ok l) (n := l.length) (by rw [List.length_reverse]; exact Nat.le_refl _) (pl_interp l) (fun i hi => by
      rw [List.length_reverse] at hi
      rw [hv i hi, hx i hi, interp_at ha hk (by omega)])]
    rfl
  · rw [openE_no h, openE_no]
    rintro ⟨h0, ha, hk⟩
    refine h ⟨by rw [List.length_reverse] at h0; exact h0, ?_, ?_⟩
    · have := ha.rev
      rw [List.reverse_reverse] at this
      exact this
    · intro i hi
      have := hk (l.length - 1 - i) (by rw [List.length_reverse]; omega)
      rw [hv _ (by omega), show l.length - 1 - (l.length - 1 - i) = i by omega] at this
      exact this

/-! ### the document's example -/
theorem inv_one : invE (1, 0) = (1, 0) := by
  rw [invE_inv (by decide) (by decide)]
  exact inv_unique (inv_ok _) (by decide) (mul_inv' (by decide) (by decide)) (by decide)
def shownL : Row := [(1, (8, 0)), (2, (11, 0))]
theorem shown_of1 : ofE [(5, 0), (3, 0)] 1 = ((1, (8, 0)), 0) := by
  rw [ofE_ok (by decide) (by decide) (by decide)]; decide
theorem shown_of2 : ofE [(5, 0), (3, 0)] 2 = ((2, (11, 0)), 0) := by
  rw [ofE_ok (by decide) (by decide) (by decide)]; decide
theorem shown_open : openE shownL (wtE shownL) = ((5, 0), 0) := by
  have ha : Apart shownL := by
    intro j hj
    match j, hj with
    | 0, _ => exact ⟨by decide, by decide, fun i hi => by omega⟩
    | 1, _ => exact ⟨by decide, by decide, fun i hi => by obtain rfl : i = 0 := by omega
                                                          decide⟩
  have hv : ∀ i, i < shownL.length → Ok (vAt shownL i) := by
    intro j hj
    match j, hj with
    | 0, _ => decide
    | 1, _ => decide
  rw [openE_yes (by decide) ha hv, secret_of ha (f := ev [(5, 0), (3, 0)]) (fun x _ => ev_ok _ _) (n := 2) (by decide) (pl_ev [(5, 0), (3, 0)] (by decide)) ?_]
  · decide
  · intro j hj
    match j, hj with
    | 0, _ => decide
    | 1, _ => decide

/-! ### a bound -/
theorem nodup_le : ∀ (n : Nat) (l : List Int), l.Nodup → (∀ x ∈ l, 1 ≤ x ∧ x ≤ n) → l.length ≤ n
  | 0, l, _, h => by
    cases l with
    | nil => exact Nat.le_refl _
    | cons a l => have := h a (by simp); omega
  | n + 1, l, hd, h => by
    by_cases hm : ((n + 1 : Nat) : Int) ∈ l
    · have := nodup_le n (l.erase ((n + 1 : Nat) : Int)) (hd.erase _) (fun x hx => by
        have h1 := (List.Nodup.mem_erase_iff hd).1 hx
        have h2 := h x h1.2
        have h3 := h1.1
        omega)
      rw [List.length_erase_of_mem hm] at this
      omega
    · have := nodup_le n l hd (fun x hx => by
        have h2 := h x hx
        have : x ≠ ((n + 1 : Nat) : Int) := fun e => hm (e ▸ hx)
        omega)
      omega
end Go.Proofs.Ytdppmkcahfjceaa.Fl
end
section
/-
  Rounds enough, whatever further; and shares by their numbers. By an AI agent.
-/
namespace Go.Proofs.Ytdppmkcahfjceaa.Fl
open Gm
set_option linter.unusedVariables false

/-! ### rounds enough -/
def Ev {α : Type} (f : Nat → Option α) (v : α) : Prop := ∃ k0, ∀ k, k0 ≤ k → f k = some v
theorem Ev.step {α : Type} {f g : Nat → Option α} {v : α} (hg : Ev g v) (h : ∀ k, f (k + 1) = g k) : Ev f v := by
  obtain ⟨k0, h0⟩ := hg
  refine ⟨k0 + 1, fun k hk => ?_⟩
  obtain ⟨k', rfl⟩ : ∃ k', k = k' + 1 := ⟨k - 1, by omega⟩
  rw [h]
  exact h0 k' (by omega)
theorem Ev.of_eq {α : Type} {f g : Nat → Option α} {v : α} (hg : Ev g v) (h : ∀ k, f k = g k) : Ev f v := by
  obtain ⟨k0, h0⟩ := hg
  exact ⟨k0, fun k hk => by rw [h]; exact h0 k hk⟩
theorem Ev.const {α : Type} {f : Nat → Option α} {v : α} (h : ∀ k, f k = some v) : Ev f v := ⟨0, fun k _ => h k⟩
theorem Ev.bind {α β : Type} {f : Nat → Option α} {g : Nat → α → Option β} {v : α} {u : β} (hf : Ev f v) (hg : Ev (fun k => g k v) u) : Ev (fun k => (f k).bind (g k)) u := by
  obtain ⟨k0, h0⟩ := hf
  obtain ⟨k1, h1⟩ := hg
  refine ⟨max k0 k1, fun k hk => ?_⟩
  show (f k).bind (g k) = some u
  rw [h0 k (by omega), Option.bind_some]
  exact h1 k (by omega)
theorem Ev.of_mono {α : Type} {f : Nat → Option α} {v : α} (h : ∀ k r, f k = some r → f (k + 1) = some r) {k0 : Nat} (h0 : f k0 = some v) : Ev f v :=
  ⟨k0, fun k hk => by
    obtain ⟨d, rfl⟩ := Nat.exists_eq_add_of_le hk
    induction d with
    | zero => exact h0
    | succ d ih => exact h _ _ (ih (by omega))⟩
theorem Ev.get {α : Type} {f : Nat → Option α} {v : α} (h : Ev f v) : ∃ k, f k = some v := by
  obtain ⟨k0, h0⟩ := h
  exact ⟨k0, h0 k0 (Nat.le_refl _)⟩

/-- shares of nobody's, with numbers l -/
def Good (l : List Int) : Prop := l.Nodup ∧ ∀ x ∈ l, 1 ≤ x ∧ x ≤ 64
theorem apart_of {l : List Int} (h : Good l) {s : Row} (hs : s.map (·.1) = l) : Apart s := by
  have hl : s.length = l.length := by rw [← hs, List.length_map]
  have hid : ∀ i (hi : i < l.length), idAt s i = l[i] := fun i hi => by
    subst hs
    unfold idAt
    rw [List.getElem_map, List.getD_eq_getElem?_getD, List.getElem?_eq_getElem (by rw [hl]; exact hi)]
    rfl
  intro j hj
  rw [hl] at hj
  rw [hid j hj]
  obtain ⟨a, b⟩ := h.2 _ (List.getElem_mem hj)
  refine ⟨a, b, fun i hi e => ?_⟩
  rw [hid i (by omega)] at e
  have := (List.nodup_iff_pairwise_ne.1 h.1)
  rw [List.pairwise_iff_getElem] at this
  exact this i j (by omega) hj hi e
/-- by what shares count is, together, 1 -/
theorem weights_one {s : Row} (h : Apart s) (h0 : s.length ≠ 0) : sm (fun k => lag (xAt s) s.length (0, 0) k) s.length = (1, 0) := by
  obtain ⟨n, hn⟩ : ∃ n, s.length = n + 1 := ⟨s.length - 1, by omega⟩
  have := lagrange (X := xAt s) (n := s.length) h.x_ok h.inj (f := fun _ => (1, 0)) (fun _ _ => one_ok) (by rw [hn]; exact pl_const one_ok n) (0, 0) zero_ok
  rw [← this]
  exact sm_congr fun i _ => (one_mul (lag_ok _ _ _ _)).symm

end Go.Proofs.Ytdppmkcahfjceaa.Fl
end
section
/-
  What one share that is another one changes. By an AI agent.
-/
namespace Go.Proofs.Ytdppmkcahfjceaa.Fl
open Gm
set_option linter.unusedVariables false

theorem inv_ne {x : E} (h : Ok x) (h0 : x ≠ (0, 0)) : inv x ≠ (0, 0) := by
  intro e
  have := mul_inv' h h0
  rw [e, mul_zero] at this
  exact absurd this (by decide)
theorem lag_ne {l : Row} (h : Apart l) {k : Nat} (hk : k < l.length) : lag (xAt l) l.length (0, 0) k ≠ (0, 0) := by
  unfold lag
  refine pr_ne (fun i hi => ?_) (fun i hi => ?_)
  · unfold fac
    by_cases e : i = k
    · rw [if_pos e]; exact one_ok
    · rw [if_neg e]; exact mul_ok _ _
  · unfold fac
    by_cases e : i = k
    · rw [if_pos e]; decide
    · rw [if_neg e, sub_zero (h.x_ok i hi)]
      intro hz
      rcases (mul_zero_iff (h.x_ok i hi) (inv_ok _)).1 hz with h1 | h1
      · exact h.ne0 i hi h1
      · exact inv_ne (sub_ok _ _) (sub_ne (h.x_ok i hi) (h.x_ok k hk) (fun x => e (h.inj i k hi hk x))) h1
theorem lag_congr {X Y : Nat → E} {n : Nat} (h : ∀ i, i < n → X i = Y i) (z : E) {k : Nat} (hk : k < n) : lag X n z k = lag Y n z k := by
  unfold lag
  refine pr_congr fun i hi => ?_
  unfold fac
  rw [h i hi, h k hk]
theorem add_cancel {x d : E} (hx : Ok x) (hd : Ok d) (h : add x d = x) : d = (0, 0) := by
  have := add_sub_cancel x hd
  rw [add_comm, h, sub_self] at this
  exact this.symm
/-- One value that is another one. -/
theorem secret_diff {l m : Row} (hl : m.length = l.length) (hid : ∀ i, i < l.length → idAt m i = idAt l i) {a : Nat} (ha : a < l.length) (hv : ∀ i, i < l.length → i ≠ a → vAt m i = vAt l i) (okl : Ok (vAt l a)) (okm : Ok (vAt m a)) :
    secret m = add (secret l) (mul (sub (vAt m a) (vAt l a)) (lag (xAt l) l.length (0, 0) a)) := by
  have hx : ∀ i, i < l.length → xAt m i = xAt l i := fun i hi => by unfold xAt; rw [hid i hi]
  have e : secret m = sm (fun k => add (mul (vAt l k) (lag (xAt l) l.length (0, 0) k)) (if k = a then mul (sub (vAt m a) (vAt l a)) (lag (xAt l) l.length (0, 0) a) else (0, 0))) l.length := by
    unfold secret
    rw [hl]
    refine sm_congr fun k hk => ?_
    rw [lag_congr hx (0, 0) hk]
    by_cases h : k = a
    · subst h
      rw [if_pos rfl, ← add_mul, add_comm, sub_add_cancel _ okm]
    · rw [if_neg h, hv k hk h, add_zero (mul_ok _ _)]
  rw [e, sm_add]
  unfold secret
  congr 1
  rw [sm_single ha (by rw [if_pos rfl]; exact mul_ok _ _) (fun i _ hne => if_neg hne), if_pos rfl]
theorem secret_ok (l : Row) : Ok (secret l) := sm_ok _ _
theorem secret_same {l m : Row} (h : Apart l) (hl : m.length = l.length) (hid : ∀ i, i < l.length → idAt m i = idAt l i) {a : Nat} (ha : a < l.length) (hv : ∀ i, i < l.length → i ≠ a → vAt m i = vAt l i) (okl : Ok (vAt l a)) (okm : Ok (vAt m a)) :
    secret m = secret l ↔ vAt m a = vAt l a := by
  rw [secret_diff hl hid ha hv okl okm]
  constructor
  · intro e
    have := add_cancel (secret_ok l) (mul_ok _ _) e
    rcases (mul_zero_iff (sub_ok _ _) (lag_ok _ _ _ _)).1 this with h1 | h1
    · exact eq_of_sub okm okl h1
    · exact absurd h1 (lag_ne h ha)
  · intro e
    rw [e, sub_self, zero_mul, add_zero (secret_ok l)]

theorem set_at (l : Row) (a : Nat) (x : Int × E) (ha : a < l.length) : (l.set a x).getD a (0, (0, 0)) = x := by
  rw [List.getD_eq_getElem?_getD, List.getElem?_set_self ha]
  rfl
theorem set_off (l : Row) {a i : Nat} (x : Int × E) (h : i ≠ a) : (l.set a x).getD i (0, (0, 0)) = l.getD i (0, (0, 0)) := by
  rw [List.getD_eq_getElem?_getD, List.getElem?_set_ne (Ne.symm h), List.getD_eq_getElem?_getD]
/-- The row with another value at a. -/
def put (l : Row) (a : Nat) (v : E) : Row := l.set a (idAt l a, v)
theorem put_length (l : Row) (a : Nat) (v : E) : (put l a v).length = l.length := List.length_set
theorem put_id (l : Row) {a : Nat} (v : E) (ha : a < l.length) (i : Nat) : idAt (put l a v) i = idAt l i := by
  unfold put
  by_cases h : i = a
  · subst h
    exact congrArg (·.1) (set_at l i _ ha)
  · exact congrArg (·.1) (set_off l _ h)
theorem put_v (l : Row) {a : Nat} (v : E) (ha : a < l.length) : vAt (put l a v) a = v := congrArg (·.2) (set_at l a _ ha)
theorem put_v' (l : Row) {a i : Nat} (v : E) (h : i ≠ a) : vAt (put l a v) i = vAt l i := congrArg (·.2) (set_off l _ h)
theorem put_apart {l : Row} (h : Apart l) {a : Nat} (v : E) (ha : a < l.length) : Apart (put l a v) := by
  intro j hj
  rw [put_length] at hj
  rw [put_id l v ha]
  obtain ⟨h1, h2, h3⟩ := h j hj
  exact ⟨h1, h2, fun i hi => by rw [put_id l v ha]; exact h3 i hi⟩
theorem put_ok {l : Row} (h : ∀ i, i < l.length → Ok (vAt l i)) {a : Nat} {v : E} (ha : a < l.length) (hv : Ok v) : ∀ i, i < (put l a v).length → Ok (vAt (put l a v) i) := by
  intro i hi
  rw [put_length] at hi
  by_cases e : i = a
  · subst e; rw [put_v l v ha]; exact hv
  · rw [put_v' l v e]; exact h i hi
end Go.Proofs.Ytdppmkcahfjceaa.Fl
end
