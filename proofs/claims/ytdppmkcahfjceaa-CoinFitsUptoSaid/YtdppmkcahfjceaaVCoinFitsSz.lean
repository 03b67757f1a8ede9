import Derived.Test.YtdppmkcahfjceaaVCoinFitsGz
import Derived.Test.YtdppmkcahfjceaaVCoinFitsWWords
import Derived.Test.YtdppmkcahfjceaaVCoinFitsWLast
import Derived.Test.YtdppmkcahfjceaaVCoinFitsWTab
import Derived.Test.YtdppmkcahfjceaaVCoinFitsWFour
import Derived.Test.YtdppmkcahfjceaaVCoinFitsWQPut
import Derived.Test.YtdppmkcahfjceaaVCoinFitsWApart
import Derived.Test.YtdppmkcahfjceaaVCoinFitsWArr
import Derived.Test.YtdppmkcahfjceaaVCoinFitsWZeros
import Derived.Test.YtdppmkcahfjceaaVCoinFitsWFoot
import Derived.Test.YtdppmkcahfjceaaVCoinFitsWKept
import Derived.Test.YtdppmkcahfjceaaVCoinFitsWShare
import Derived.Test.YtdppmkcahfjceaaVCoinFitsWN
import Derived.Test.YtdppmkcahfjceaaVCoinFitsWFootNe
import Derived.Test.YtdppmkcahfjceaaVCoinFitsWAt
import Derived.Test.YtdppmkcahfjceaaVCoinFitsWEqStruct
import Derived.Test.YtdppmkcahfjceaaVCoinFitsWRepsOne
import Derived.Test.YtdppmkcahfjceaaVCoinFitsWGuard
import Derived.Test.YtdppmkcahfjceaaVCoinFitsWNEv
import Derived.Test.YtdppmkcahfjceaaVCoinFitsWMore
import Derived.Maps.OwnSet
/- What this claim names of the words that its proofs lean on: gathered out of them by a program of this session (shake.py). By an AI agent. -/
section
/-
  share.Eval walked: a polynomial's value, from the last coefficient on. By an AI agent.
-/
namespace Go.Proofs.Ytdppmkcahfjceaa.Fl
open Flt
open Go.RowKit Go.Proofs.YtdppmkcahfjceaaW.PrintWords Go.Proofs.YtdppmkcahfjceaaW.PrintLast Go.Proofs.YtdppmkcahfjceaaW.PrintMore
set_option linter.unusedVariables false
set_option linter.unusedSimpArgs false

/-- what is made of o by the coefficients below i -/
def evFrom (l : List Gm.E) (x : Gm.E) : Nat → Gm.E → Gm.E
  | 0, o => o
  | i + 1, o => evFrom l x i (opE Gm.add (opE Gm.mul o x) (l.getD i (0, 0)))
/-- a row of elements in memory -/
def RowE (W : World) (A : Option Addr) (l : List Gm.E) : Prop := ∀ i : Nat, i < l.length → ∃ ad, A = some ad ∧ W.cell? (ad.add (i * 2)) = some (.int .i64 (l.getD i (0, 0)).1) ∧ W.cell? ⟨(ad.add (i * 2)).block, (ad.add (i * 2)).off + 1, none⟩ = some (.int .i64 (l.getD i (0, 0)).2)

theorem new_ (w : World) (o : Obj) {n : Nat} (h : w.heap.size = n) : (w.alloc o).heap[n]? = some o := by
  subst h
  exact blk_new w o
structure EvW (w0 : World) (l : List Gm.E) (x : Gm.E) (i : Nat) (o : Gm.E) (W : World) : Prop where
  bx : W.heap[w0.heap.size]? = some (.cells #[.int .i64 x.1, .int .i64 x.2] 23 (0, 0))
  br : W.heap[w0.heap.size + 1]? = some (.cells #[.int .i64 0, .int .i64 0] 23 (0, 0))
  bo : W.heap[w0.heap.size + 2]? = some (.cells #[.int .i64 o.1, .int .i64 o.2] 23 (0, 0))
  hi : i ≤ l.length
  fin : evFrom l x i o = evFrom l x l.length (0, 0)
  hb : Below w0.heap.size w0 W
def evT : Bool × List (List Nat × List Nat) := (true, [([], []), ([], []), ([0, 1], [0, 1]), ([], []), ([], []), ([3, 4], [3, 4]), ([5], [5]), ([2, 6, 2], [2, 6]), ([7, 7, 0, 1, 2, 3, 4, 5, 6, 7], [7])])
def evB : List Nat := [0, 0, 3, 0, 0, 24, 56, 127, 255]
theorem evTab : rtab .any (opsOf Try.f114 5) = evT := by kernel_rfl
theorem evBits : waitsOk evT.2 evB = true := by kernel_rfl

set_option maxHeartbeats 8000000 in
set_option maxRecDepth 100000 in
theorem eval_c (A : Option Addr) (c : Nat) (l : List Gm.E) (x : Gm.E) (w : World) (hr : RowE w A l) (hlen : l.length ≤ 9223372036854775807) :
    Calls Try.prog 114 #[.slice A l.length c, .agg #[.int .i64 x.1, .int .i64 x.2]] w fun e w' => e = .returned (.agg #[.int .i64 (evFrom l x l.length (0, 0)).1, .int .i64 (evFrom l x l.length (0, 0)).2]) ∧ Below w.heap.size w w' := by
  have HR0 := Lib.hid hr
  have HL := Lib.hid hlen
  clear hr hlen
  go_enter Try.func114, Try.ntmps114
  go_wp2_with fail
  refine wp_label_jumps 0 (fun a' w' => ∃ (i : Nat) (o : Gm.E) (u7 u8 u9 u10 u11 u12 u13 u14 u15 u16 u17 u18 u19 u20 u21 u22 : Value),
    a' = { tmps := #[.slice A l.length c, .agg #[.int .i64 x.1, .int .i64 x.2], undef, .pointer (some ⟨w.heap.size, 0, none⟩), .pointer (some ⟨w.heap.size + 1, 0, none⟩), .pointer (some ⟨w.heap.size + 2, 0, none⟩), .int .i64 i, u7, u8, u9, u10, u11, u12, u13, u14, u15, u16, u17, u18, u19, u20, u21, u22], defers := [] } ∧ EvW w l x i o w')
    (fun a' _ => (intOf (a'.tmps.getD 6 undef)).toNat) rfl ?pass ?first
  case first =>
    intro hrest
    go_wp2_with fail
    go_step3
    simp only [Exit.then]
    refine (by assumption : ∀ (a : Act) (w : World), Code.wp Try.prog _ _ a w → _ ) _ _ (hrest _ _ ?_)
    clear hrest
    refine ⟨l.length, (0, 0), _, _, _, _, _, _, _, _, _, _, _, _, _, _, _, _, rfl, ?_, ?_, ?_, Nat.le_refl _, rfl, ?_⟩
    · exact blk_alloc (blk_alloc (new_ _ _ rfl) _) _
    · exact blk_alloc (new_ _ _ (by simp)) _
    · exact new_ _ _ (by simp)
    · exact (((Below.refl _ _).alloc (Nat.le_refl _) _).alloc (by simp) _).alloc (by simp; omega) _
  case pass =>
    rintro a' w' ⟨i, o, u7, u8, u9, u10, u11, u12, u13, u14, u15, u16, u17, u18, u19, u20, u21, u22, rfl, H⟩
    obtain ⟨BK142, BK143, BK144, hi, fin, HB⟩ := H
    cases i with
    | zero =>
      have r1 : w'.cell? ⟨w.heap.size + 1, 0, none⟩ = some (.int .i64 0) := (blk_cell BK143 0).trans rfl
      have r2 : w'.cell? ⟨w.heap.size + 1, 1, none⟩ = some (.int .i64 0) := (blk_cell BK143 1).trans rfl
      have r3 := blk_frozen BK143 0
      have r4 := blk_frozen BK143 1
      have o1 : w'.cell? ⟨w.heap.size + 2, 0, none⟩ = some (.int .i64 o.1) := (blk_cell BK144 0).trans rfl
      have o2 : w'.cell? ⟨w.heap.size + 2, 1, none⟩ = some (.int .i64 o.2) := (blk_cell BK144 1).trans rfl
      have HF := Lib.hid fin
      have HB' := Lib.hid ((HB.setCell (p := ⟨w.heap.size + 1, 0, none⟩) (by simp) (.int .i64 o.1)).setCell (p := ⟨w.heap.size + 1, 1, none⟩) (by simp) (.int .i64 o.2))
      clear fin HB BK142 BK143 BK144 hi
      go_wp2
      simp only [Exit.jump]
      refine bodyPost_ret (v := .agg #[.int .i64 o.1, .int .i64 o.2]) ?_ rfl ⟨?_, HB'.out⟩
      · simp [results, Try.results114, go_sem, r1, r2]
      · rw [← HF.out]; rfl
    | succ j =>
      have c9 : (((j + 1 : Nat) : Int) == 0) = false := by rw [beq_eq_false_iff_ne]; omega
      have hw : wrap64 (j : Int) = (j : Int) := by have := HL.out; exact Go.IntWalk.wrap64_in _ (by omega)
      go_wp2_with fail
      rw [hw]
      have HF := Lib.hid fin
      have HI := Lib.hid hi
      have BK142 := Aside0.mk (blk_drew BK142)
      have BK143 := Aside0.mk (blk_drew BK143)
      have BK144 := Aside0.mk (blk_drew BK144)
      have HB := Aside0.mk (below_drew1 HB)
      have GE142 := Aside0.mk (Nat.le_refl w.heap.size)
      have GE143 := Aside0.mk (show w.heap.size ≤ w.heap.size + 1 by omega)
      have GE144 := Aside0.mk (show w.heap.size ≤ w.heap.size + 2 by omega)
      have NB142_144 := Aside0.mk (show w.heap.size ≠ w.heap.size + 2 by omega)
      have NB143_144 := Aside0.mk (show w.heap.size + 1 ≠ w.heap.size + 2 by omega)
      have NB144_142 := Aside0.mk (show w.heap.size + 2 ≠ w.heap.size by omega)
      have NB144_143 := Aside0.mk (show w.heap.size + 2 ≠ w.heap.size + 1 by omega)
      have p147 : 0 ≤ (j : Int) := by omega
      have q147 : (j : Int) < (l.length : Int) := by omega
      obtain ⟨ad147, e147, hx147_0, hx147_1⟩ := HR0.out j (by omega)
      have hw147_1 := hx147_1
      have hw147_0 := hx147_0
      cases e147
      replace hx147_0 := (HB.out.cell (World.block_lt_of_cell? w _ hx147_0)).trans hx147_0
      replace hx147_1 := (HB.out.cell (World.block_lt_of_cell? w _ hx147_1)).trans hx147_1
      replace p147 := eq_true p147
      replace q147 := eq_true q147
      have tn : ((j : Int)).toNat = j := Int.toNat_natCast j
      clear fin hi c9 hw
      refine start_ (n := 9) (S := fun w' => w'.cell? ⟨(w.heap.size + 2), 0, none⟩ = some (.int .i64 o.1) ∧ w'.cell? ⟨(w.heap.size + 2), 1, none⟩ = some (.int .i64 o.2) ∧ w'.cell? ⟨(w.heap.size), 0, none⟩ = some (.int .i64 x.1) ∧ w'.cell? ⟨(w.heap.size), 1, none⟩ = some (.int .i64 x.2) ∧ w'.cell? (ad147.add (j * 2)) = some (.int .i64 ((l.getD j (0, 0)).1)) ∧ w'.cell? ⟨(ad147.add (j * 2)).block, (ad147.add (j * 2)).off + 1, none⟩ = some (.int .i64 ((l.getD j (0, 0)).2))) (ds := [8]) #[false, false, false, false, false, false, false, false, false] (by kernel_rfl) rfl rfl ⟨(blk_cell BK144.out 0).trans rfl, (blk_cell BK144.out 1).trans rfl, (blk_cell BK142.out 0).trans rfl, (blk_cell BK142.out 1).trans rfl, ((HB.out.cell (World.block_lt_of_cell? w _ hw147_0)).trans hw147_0), ((HB.out.cell (World.block_lt_of_cell? w _ hw147_1)).trans hw147_1)⟩ (fun hHeld => ?_); refine with_tabW evTab evBits (fun HT_ HW_ => ?_)
      generalize w'.drew = w14 at BK142 BK143 BK144 HB hx147_0 hx147_1 hHeld ⊢
      refine pure_ (i := 3) (N := some 18) (v := ?_) (a' := ?_) #[false, false, false, true, false, false, false, false, false] rfl rfl (any_of HT_.out (by kernel_rfl)) (fun _ _ _ h => h) (Or.inl ⟨by rfl, ?_⟩) ?_ ?_
      rotate_left
      · intro w'
        go_simp
        with_reducible rfl
      rotate_left
      · simp only [Act.put, List.setIfInBounds_toArray, List.set_cons_zero, List.set_cons_succ, i64_w, i32_w]
        rfl
      refine pure_ (i := 4) (N := some 19) (v := ?_) (a' := ?_) #[false, false, false, true, true, false, false, false, false] rfl rfl (any_of HT_.out (by kernel_rfl)) (fun _ _ _ h => h) (Or.inl ⟨by rfl, ?_⟩) ?_ ?_
      rotate_left
      · intro w'
        go_simp
        with_reducible rfl
      rotate_left
      · simp only [Act.put, List.setIfInBounds_toArray, List.set_cons_zero, List.set_cons_succ, i64_w, i32_w]
        rfl
      refine pure_ (i := 5) (N := some 20) (v := ?_) (a' := ?_) #[false, false, false, true, true, true, false, false, false] rfl rfl (any_of HT_.out (by kernel_rfl)) (fun _ _ _ h => h) (Or.inl ⟨by rfl, ?_⟩) ?_ ?_
      rotate_left
      · intro w'
        go_simp
        with_reducible rfl
      rotate_left
      · simp only [Act.put, List.setIfInBounds_toArray, List.set_cons_zero, List.set_cons_succ, i64_w, i32_w]
        rfl
      refine take_ (i := 0) (N := some 15) (v := ?_) (a' := ?_) #[true, false, false, true, true, true, false, false, false] rfl rfl (take_ofW HT_.out HW_.out (by kernel_rfl)) (fun _ _ _ h => h) (Or.inl ⟨by rfl, ?_⟩) hHeld ?_ ?_
      rotate_left
      · rintro w' ⟨s0, s1, s2, s3, s4, s5⟩
        go_simp
        with_reducible rfl
      rotate_left
      · simp only [Act.put, List.setIfInBounds_toArray, List.set_cons_zero, List.set_cons_succ, i64_w, i32_w]
        rfl
      refine take_ (i := 1) (N := some 16) (v := ?_) (a' := ?_) #[true, true, false, true, true, true, false, false, false] rfl rfl (take_ofW HT_.out HW_.out (by kernel_rfl)) (fun _ _ _ h => h) (Or.inl ⟨by rfl, ?_⟩) hHeld ?_ ?_
      rotate_left
      · rintro w' ⟨s0, s1, s2, s3, s4, s5⟩
        go_simp
        with_reducible rfl
      rotate_left
      · simp only [Act.put, List.setIfInBounds_toArray, List.set_cons_zero, List.set_cons_succ, i64_w, i32_w]
        rfl
      refine take_ (i := 6) (N := some 21) (v := ?_) (a' := ?_) #[true, true, false, true, true, true, true, false, false] rfl rfl (take_ofW HT_.out HW_.out (by kernel_rfl)) (fun _ _ _ h => h) (Or.inl ⟨by rfl, ?_⟩) hHeld ?_ ?_
      rotate_left
      · rintro w' ⟨s0, s1, s2, s3, s4, s5⟩
        go_simp
        with_reducible rfl
      rotate_left
      · simp only [Act.put, List.setIfInBounds_toArray, List.set_cons_zero, List.set_cons_succ, i64_w, i32_w]
        rfl
      refine one_ (i := 2) (N := some 17) #[true, true, true, true, true, true, true, false, false] rfl rfl (one_of HT_.out (by kernel_rfl)) (by decide) (fun K hK => ?_)
      refine goes_ Try.func120 (by kernel_rfl) rfl #[.agg #[.int .i64 o.1, .int .i64 o.2], .agg #[.int .i64 x.1, .int .i64 x.2]] (by rfl) rfl rfl (by (try simp only [List.map_toArray, List.map_cons, List.map_nil]); first | done | rfl | (simp only [List.length_drop, List.length_take]; rfl)) ?_
      with_reducible refine (mul_c o.1 o.2 x.1 x.2 _).mono ?_
      rintro e w15 ⟨rfl, hb⟩
      refine ⟨_, rfl, ?_⟩
      have n0_ := Aside0.mk (blk_below (g := (w.heap.size)) (o := .cells #[.int .i64 x.1, .int .i64 x.2] 23 (0, 0)) (by (with_reducible repeat (first | refine blk_drewN ?_ _ | refine blk_drew ?_ | refine blk_alloc ?_ _)); exact BK142.out) hb)
      have n1_ := Aside0.mk (blk_below (g := (w.heap.size + 1)) (o := .cells #[.int .i64 0, .int .i64 0] 23 (0, 0)) (by (with_reducible repeat (first | refine blk_drewN ?_ _ | refine blk_drew ?_ | refine blk_alloc ?_ _)); exact BK143.out) hb)
      have n2_ := Aside0.mk (blk_below (g := (w.heap.size + 2)) (o := .cells #[.int .i64 o.1, .int .i64 o.2] 23 (0, 0)) (by (with_reducible repeat (first | refine blk_drewN ?_ _ | refine blk_drew ?_ | refine blk_alloc ?_ _)); exact BK144.out) hb)
      have n3_ := Aside0.mk (below_step (by repeat (first | (with_reducible first | exact HB.out | apply below_alloc | apply pw_below_drewN | apply below_drew1 | refine below_set ?_ GE142.out | refine below_set ?_ GE143.out | refine below_set ?_ GE144.out) | exact HB.out)) hb)
      clear BK142
      clear BK143
      clear BK144
      clear HB
      have BK142 := n0_
      have BK143 := n1_
      have BK144 := n2_
      have HB := n3_
      clear n0_ n1_ n2_ n3_
      (try clear hb)
      (try clear hb2)
      (try clear hk)
      (try clear hi)
      refine hK.out _ _ ⟨(blk_cell BK144.out 0).trans rfl, (blk_cell BK144.out 1).trans rfl, (blk_cell BK142.out 0).trans rfl, (blk_cell BK142.out 1).trans rfl, ((HB.out.cell (World.block_lt_of_cell? w _ hw147_0)).trans hw147_0), ((HB.out.cell (World.block_lt_of_cell? w _ hw147_1)).trans hw147_1)⟩ (fun hHeld => ?_)
      clear hK K
      refine norm_ (a' := ?_) ?_ ?_
      rotate_left
      · show Act.put _ (some 17) _ = _
        simp only [Act.put, List.setIfInBounds_toArray, List.set_cons_zero, List.set_cons_succ, i64_w, i32_w]
        rfl
      refine one_ (i := 7) (N := some 22) #[true, true, true, true, true, true, true, true, false] rfl rfl (one_of HT_.out (by kernel_rfl)) (by decide) (fun K hK => ?_)
      refine goes_ Try.func119 (by kernel_rfl) rfl #[.agg #[.int .i64 (opE Gm.mul o x).1, .int .i64 (opE Gm.mul o x).2], .agg #[.int .i64 ((l.getD j (0, 0)).1), .int .i64 ((l.getD j (0, 0)).2)]] (by rfl) rfl rfl (by (try simp only [List.map_toArray, List.map_cons, List.map_nil]); first | done | rfl | (simp only [List.length_drop, List.length_take]; rfl)) ?_
      with_reducible refine (add_c (opE Gm.mul o x).1 (opE Gm.mul o x).2 (l.getD j (0, 0)).1 (l.getD j (0, 0)).2 _).mono ?_
      rintro e w16 ⟨rfl, hb⟩
      refine ⟨_, rfl, ?_⟩
      have n0_ := Aside0.mk (blk_below (g := (w.heap.size)) (o := .cells #[.int .i64 x.1, .int .i64 x.2] 23 (0, 0)) (by (with_reducible repeat (first | refine blk_drewN ?_ _ | refine blk_drew ?_ | refine blk_alloc ?_ _)); exact BK142.out) hb)
      have n1_ := Aside0.mk (blk_below (g := (w.heap.size + 1)) (o := .cells #[.int .i64 0, .int .i64 0] 23 (0, 0)) (by (with_reducible repeat (first | refine blk_drewN ?_ _ | refine blk_drew ?_ | refine blk_alloc ?_ _)); exact BK143.out) hb)
      have n2_ := Aside0.mk (blk_below (g := (w.heap.size + 2)) (o := .cells #[.int .i64 o.1, .int .i64 o.2] 23 (0, 0)) (by (with_reducible repeat (first | refine blk_drewN ?_ _ | refine blk_drew ?_ | refine blk_alloc ?_ _)); exact BK144.out) hb)
      have n3_ := Aside0.mk (below_step (by repeat (first | (with_reducible first | exact HB.out | apply below_alloc | apply pw_below_drewN | apply below_drew1 | refine below_set ?_ GE142.out | refine below_set ?_ GE143.out | refine below_set ?_ GE144.out) | exact HB.out)) hb)
      clear BK142
      clear BK143
      clear BK144
      clear HB
      have BK142 := n0_
      have BK143 := n1_
      have BK144 := n2_
      have HB := n3_
      clear n0_ n1_ n2_ n3_
      (try clear hb)
      (try clear hb2)
      (try clear hk)
      (try clear hi)
      refine hK.out _ _ ⟨(blk_cell BK144.out 0).trans rfl, (blk_cell BK144.out 1).trans rfl, (blk_cell BK142.out 0).trans rfl, (blk_cell BK142.out 1).trans rfl, ((HB.out.cell (World.block_lt_of_cell? w _ hw147_0)).trans hw147_0), ((HB.out.cell (World.block_lt_of_cell? w _ hw147_1)).trans hw147_1)⟩ (fun hHeld => ?_)
      clear hK K
      refine norm_ (a' := ?_) ?_ ?_
      rotate_left
      · show Act.put _ (some 22) _ = _
        simp only [Act.put, List.setIfInBounds_toArray, List.set_cons_zero, List.set_cons_succ, i64_w, i32_w]
        rfl
      refine last_ (i := 8) (N := none) #[true, true, true, true, true, true, true, true, true] rfl rfl (one_of HT_.out (by kernel_rfl)) (by decide) (fun K hK => ?_)
      have hs17 : w16.cell? ⟨(w.heap.size + 2), 0, none⟩ = some (.int .i64 o.1) := (blk_cell BK144.out 0).trans rfl
      have hfs17 := blk_frozen BK144.out 0
      have hns17_0 := NB142_144.out
      have hns17_1 := NB143_144.out
      have hms17_0 := NB144_142.out
      have hms17_1 := NB144_143.out
      have hs18 : w16.cell? ⟨(w.heap.size + 2), 1, none⟩ = some (.int .i64 o.2) := (blk_cell BK144.out 1).trans rfl
      have hfs18 := blk_frozen BK144.out 1
      have hns18_0 := NB142_144.out
      have hns18_1 := NB143_144.out
      have hms18_0 := NB144_142.out
      have hms18_1 := NB144_143.out
      refine skip_ (w1 := ?_) (by rfl) rfl ?_ ?_
      rotate_left
      · go_simp
        rfl
      refine hK.out _ _ ?_
      clear hK K
      refine done_ (done_of HT_.out (by kernel_rfl)) ?_
      try go_wp2
      go_step3
      refine ⟨rfl, ⟨j, opE Gm.add (opE Gm.mul o x) (l.getD j (0, 0)), _, _, _, _, _, _, _, _, _, _, _, _, _, _, _, _, rfl, ?_, ?_, ?_, ?_, ?_, ?_⟩, ?_⟩
      · exact blk_far (blk_far BK142.out NB142_144.out _) NB142_144.out _
      · exact blk_far (blk_far BK143.out NB143_144.out _) NB143_144.out _
      · refine blk_put (cs := #[.int .i64 (opE Gm.add (opE Gm.mul o x) (l.getD j (0, 0))).1, .int .i64 o.2]) ?_ 1 _ rfl
        exact blk_put (cs := #[.int .i64 o.1, .int .i64 o.2]) BK144.out 0 _ rfl
      · have := HI.out; omega
      · exact HF.out
      · exact below_set (below_set HB.out GE144.out) GE144.out
      · simp only [intOf, Array.getD_eq_getD_getElem?, List.getElem?_toArray, List.getElem?_cons_succ, List.getElem?_cons_zero, Option.getD_some, Int.toNat_natCast]
        omega
end Go.Proofs.Ytdppmkcahfjceaa.Fl
end
section
/-
  slices.IndexFunc and slices.ContainsFunc at []api.Elem and []api.Share, with whatever predicate turns nothing. By an AI agent.
-/
namespace Go.Proofs.Ytdppmkcahfjceaa.Fl
open Flt
open Go.RowKit Go.Proofs.YtdppmkcahfjceaaW.PrintWords Go.Proofs.YtdppmkcahfjceaaW.PrintLast Go.Proofs.YtdppmkcahfjceaaW.PrintMore
set_option linter.unusedVariables false
set_option linter.unusedSimpArgs false

/-- the first place from i on (n places in all) at which p holds, or -1 -/
def ixFrom (p : Nat → Bool) (n : Nat) : Nat → Nat → Int
  | 0, _ => -1
  | k + 1, i => if p i then (i : Int) else ixFrom p n k (i + 1)
def ix (p : Nat → Bool) (n : Nat) : Int := ixFrom p n n 0
theorem ixFrom_nonneg (p : Nat → Bool) (n : Nat) : ∀ k i, 0 ≤ ixFrom p n k i ↔ ∃ j, i ≤ j ∧ j < i + k ∧ p j = true
  | 0, i => by
    constructor
    · intro h; simp [ixFrom] at h
    · rintro ⟨j, h1, h2, _⟩; omega
  | k + 1, i => by
    rw [ixFrom]
    by_cases h : p i = true
    · rw [if_pos h]
      exact ⟨fun _ => ⟨i, Nat.le_refl _, by omega, h⟩, fun _ => by omega⟩
    · rw [if_neg h, ixFrom_nonneg p n k (i + 1)]
      constructor
      · rintro ⟨j, h1, h2, h3⟩; exact ⟨j, by omega, by omega, h3⟩
      · rintro ⟨j, h1, h2, h3⟩
        by_cases e : j = i
        · subst e; exact absurd h3 h
        · exact ⟨j, by omega, by omega, h3⟩
theorem ix_nonneg (p : Nat → Bool) (n : Nat) : 0 ≤ ix p n ↔ ∃ j, j < n ∧ p j = true := by
  unfold ix
  rw [ixFrom_nonneg]
  constructor
  · rintro ⟨j, _, h2, h3⟩; exact ⟨j, by omega, h3⟩
  · rintro ⟨j, h2, h3⟩; exact ⟨j, Nat.zero_le _, by omega, h3⟩

set_option maxHeartbeats 4000000 in
set_option maxRecDepth 100000 in
theorem index_elem (A : Option Addr) (c : Nat) (l : List Gm.E) (g : Nat) (p : Gm.E → Bool) (w : World) (hr : RowE w A l) (hlen : l.length ≤ 9223372036854775807)
    (eg : ∀ args w, (callFunc g args).run Try.prog w = .ok (.enter g args) w)
    (hp : ∀ (W : World) (x : Gm.E), Calls Try.prog g #[.agg #[.int .i64 x.1, .int .i64 x.2]] W fun e w' => e = .returned (.bool (p x)) ∧ Below W.heap.size W w') :
    Calls Try.prog 151 #[.slice A l.length c, .func (.func g) #[] #[]] w fun e w' => e = .returned (.int .i64 (ix (fun i => p (l.getD i (0, 0))) l.length)) ∧ Below w.heap.size w w' := by
  have HR0 := Lib.hid hr
  have HL := Lib.hid hlen
  have HP := Lib.hid hp
  clear hr hlen hp
  go_enter Try.func151, Try.ntmps151
  go_wp2
  go_loopg [5, 8] l.length (fun gg _ s8 wr => ∃ kk : Nat, kk ≤ l.length ∧ l.length - kk ≤ gg ∧ s8 = .int .i64 kk ∧ Aside0 (Below w.heap.size w wr) ∧ Aside0 (ixFrom (fun i => p (l.getD i (0, 0))) l.length (l.length - kk) kk = ix (fun i => p (l.getD i (0, 0))) l.length))
  case atStart => exact ⟨0, Nat.zero_le _, by omega, rfl, ⟨Below.refl _ w⟩, ⟨rfl⟩⟩
  case round =>
    obtain ⟨kk, hkk, hg, rfl, BW, FI⟩ := hrel
    by_cases hlt : kk < l.length
    · have hltz : (kk : Int) < (l.length : Int) := by omega
      have p147 := eq_true (show 0 ≤ (kk : Int) by omega)
      have q147 := eq_true hltz
      obtain ⟨ad147, e147, hx147_0, hx147_1⟩ := HR0.out kk hlt
      cases e147
      replace hx147_0 := (BW.out.cell (World.block_lt_of_cell? w _ hx147_0)).trans hx147_0
      replace hx147_1 := (BW.out.cell (World.block_lt_of_cell? w _ hx147_1)).trans hx147_1
      have hcall := HP.out wr (l.getD kk (0, 0))
      have FI' := FI.out
      rw [show l.length - kk = (l.length - (kk + 1)) + 1 by omega, ixFrom] at FI'
      generalize hy : l.getD kk (0, 0) = y at hx147_0 hx147_1 hcall FI'
      have tn : ((kk : Int)).toNat = kk := Int.toNat_natCast kk
      cases hq : p y with
      | true =>
        rw [hq] at hcall
        rw [if_pos (hq)] at FI'
        have HF := Lib.hid FI'
        clear hy FI FI'
        go_wp2_with fail
        refine hcall.mono ?_
        rintro e w' ⟨rfl, hb'⟩
        go_wp2
        go_ret
        exact ⟨congrArg (fun z => Ending.returned (Value.int .i64 z)) HF.out, BW.out.trans (hb'.mono BW.out.size)⟩
      | false =>
        rw [hq] at hcall
        rw [if_neg (by rw [hq]; decide)] at FI'
        have HF := Lib.hid FI'
        clear hy FI FI'
        have hw : wrap64 ((kk : Int) + 1) = ((kk + 1 : Nat) : Int) := by have := HL.out; rw [Go.IntWalk.wrap64_in _ (by omega)]; omega
        go_wp2_with fail
        refine hcall.mono ?_
        rintro e w' ⟨rfl, hb'⟩
        go_wp2
        go_roundg (l.length - (kk + 1))
        case measure => omega
        case rel => exact ⟨kk + 1, by omega, by omega, by first | exact congrArg _ hw | go_num, ⟨BW.out.trans (hb'.mono BW.out.size)⟩, ⟨HF.out⟩⟩
    · have hltz : ¬ (kk : Int) < (l.length : Int) := by omega
      have e : l.length - kk = 0 := by omega
      have FI' := FI.out
      rw [e, ixFrom] at FI'
      have HF := Lib.hid FI'
      clear FI FI' e
      go_wp2
      go_ret
      exact ⟨congrArg (fun z => Ending.returned (Value.int .i64 z)) HF.out, BW.out⟩

set_option maxHeartbeats 4000000 in
theorem contains_elem (A : Option Addr) (c : Nat) (l : List Gm.E) (g : Nat) (p : Gm.E → Bool) (w : World) (hr : RowE w A l) (hlen : l.length ≤ 9223372036854775807)
    (eg : ∀ args w, (callFunc g args).run Try.prog w = .ok (.enter g args) w)
    (hp : ∀ (W : World) (x : Gm.E), Calls Try.prog g #[.agg #[.int .i64 x.1, .int .i64 x.2]] W fun e w' => e = .returned (.bool (p x)) ∧ Below W.heap.size W w') :
    Calls Try.prog 113 #[.slice A l.length c, .func (.func g) #[] #[]] w fun e w' => e = .returned (.bool (decide (0 ≤ ix (fun i => p (l.getD i (0, 0))) l.length))) ∧ Below w.heap.size w w' := by
  have HC := Lib.hid (index_elem A c l g p w hr hlen eg hp)
  clear hr hlen hp eg
  go_enter Try.func113, Try.ntmps113
  go_wp2_with fail
  refine HC.out.mono ?_
  rintro e w' ⟨rfl, hb⟩
  go_wp2
  go_ret
  exact ⟨rfl, hb⟩

set_option maxHeartbeats 4000000 in
theorem of_odd (a b : Int) (w : World) : Calls Try.prog 112 #[.agg #[.int .i64 a, .int .i64 b]] w fun e w' => e = .returned (.bool (!mayB a b)) ∧ Below w.heap.size w w' := by
  have M1 := Lib.hid (fun w => may_c a b w)
  go_enter Try.func112, Try.ntmps112
  go_wp2_with fail
  refine (M1.out _).mono ?_
  rintro e w1 ⟨rfl, hb⟩
  go_wp2
  go_ret
  exact ⟨rfl, ((Below.refl _ _).alloc (Nat.le_refl _) _).trans (hb.mono (by simp))⟩
end Go.Proofs.Ytdppmkcahfjceaa.Fl
end
section
/-
  share.Of walked: a seat's share. By an AI agent.
-/
namespace Go.Proofs.Ytdppmkcahfjceaa.Fl
open Flt
open Go.RowKit Go.Proofs.YtdppmkcahfjceaaW.PrintWords Go.Proofs.YtdppmkcahfjceaaW.PrintLast Go.Proofs.YtdppmkcahfjceaaW.PrintMore
set_option linter.unusedVariables false
set_option linter.unusedSimpArgs false

/-- may all coefficients be? -/
def oddE (l : List Gm.E) : Bool := decide (0 ≤ ix (fun i => (fun x : Gm.E => !mayB x.1 x.2) (l.getD i (0, 0))) l.length)
def evE (l : List Gm.E) (x : Gm.E) : Gm.E := evFrom l x l.length (0, 0)
def ofE (l : List Gm.E) (id : Int) : (Int × Gm.E) × Int := if id < 1 then ((0, (0, 0)), 1) else if id > 64 then ((0, (0, 0)), 1) else if oddE l = true then ((0, (0, 0)), 1) else ((id, evE l (id, 0)), 0)

theorem rowE_below {W W' : World} {A : Option Addr} {l : List Gm.E} (h : RowE W A l) (hb : Below W.heap.size W W') : RowE W' A l := by
  intro i hi
  obtain ⟨ad, e, h0, h1⟩ := h i hi
  exact ⟨ad, e, (hb.cell (World.block_lt_of_cell? W _ h0)).trans h0, (hb.cell (World.block_lt_of_cell? W _ h1)).trans h1⟩
theorem enters_c {g : Nat} {fn : Func} (hf : Try.prog.funcs[g]? = some fn) (hname : (fn.name == "runtime.NumGoroutine") = false) (hb : fn.body.isSome = true) : ∀ args w, (callFunc g args).run Try.prog w = .ok (.enter g args) w := fun args w => enters_ hf hname hb args w

set_option maxHeartbeats 8000000 in
set_option maxRecDepth 100000 in
theorem of_c (A : Option Addr) (c : Nat) (l : List Gm.E) (id : Int) (w : World) (hr : RowE w A l) (hlen : l.length ≤ 9223372036854775807) :
    Calls Try.prog 68 #[.slice A l.length c, .int .i64 id] w fun e w' => e = .returned (.tuple #[.agg #[.int .i64 (ofE l id).1.1, .int .i64 (ofE l id).1.2.1, .int .i64 (ofE l id).1.2.2], .int .i64 (ofE l id).2]) ∧ Below w.heap.size w w' := by
  by_cases h1 : id < 1
  · have d1 : decide (id < 1) = true := decide_eq_true h1
    have e : ofE l id = ((0, (0, 0)), 1) := by unfold ofE; rw [if_pos h1]
    rw [e]
    clear e hr hlen h1
    go_enter Try.func68, Try.ntmps68
    go_wp2
    refine bodyPost_ret (v := .tuple #[.agg #[.int .i64 0, .int .i64 0, .int .i64 0], .int .i64 1]) ?_ rfl ⟨rfl, ?_⟩
    · simp [results, Try.results68, go_sem]
    · exact ((Below.refl _ _).alloc (Nat.le_refl _) _)
  · have d1 : decide (id < 1) = false := decide_eq_false h1
    by_cases h2 : id > 64
    · have d2 : decide (id > 64) = true := decide_eq_true h2
      have e : ofE l id = ((0, (0, 0)), 1) := by unfold ofE; rw [if_neg h1, if_pos h2]
      rw [e]
      clear e hr hlen h1 h2
      go_enter Try.func68, Try.ntmps68
      go_wp2
      refine bodyPost_ret (v := .tuple #[.agg #[.int .i64 0, .int .i64 0, .int .i64 0], .int .i64 1]) ?_ rfl ⟨rfl, ?_⟩
      · simp [results, Try.results68, go_sem]
      · exact ((Below.refl _ _).alloc (Nat.le_refl _) _)
    · have d2 : decide (id > 64) = false := decide_eq_false h2
      have B0 : Below w.heap.size w (w.alloc (.cells #[.int .i64 0, .int .i64 0, .int .i64 0] 104)) := (Below.refl _ _).alloc (Nat.le_refl _) _
      have hr0 : RowE (w.alloc (.cells #[.int .i64 0, .int .i64 0, .int .i64 0] 104)) A l := rowE_below hr B0
      have HC := Lib.hid (contains_elem A c l 112 (fun x => !mayB x.1 x.2) _ hr0 hlen (enters_c Try.func112 rfl rfl) (fun W x => of_odd x.1 x.2 W))
      have R0 : (w.alloc (.cells #[.int .i64 0, .int .i64 0, .int .i64 0] 104)).heap[w.heap.size]? = some (.cells #[.int .i64 0, .int .i64 0, .int .i64 0] 104 (0, 0)) := new_ _ _ rfl
      have HB0 := Lib.hid B0
      have HR0 := Lib.hid R0
      by_cases h3 : oddE l = true
      · have e : ofE l id = ((0, (0, 0)), 1) := by unfold ofE; rw [if_neg h1, if_neg h2, if_pos h3]
        rw [e]
        unfold oddE at h3
        rw [h3] at HC
        clear e h1 h2 h3 hr hr0 hlen B0 R0
        go_enter Try.func68, Try.ntmps68
        go_wp2_with fail
        refine HC.out.mono ?_
        rintro e w1 ⟨rfl, hb⟩
        have R1 := blk_below HR0.out hb
        have r1 : w1.cell? ⟨w.heap.size, 0, none⟩ = some (.int .i64 0) := (blk_cell R1 0).trans rfl
        have r2 : w1.cell? ⟨w.heap.size, 1, none⟩ = some (.int .i64 0) := (blk_cell R1 1).trans rfl
        have r3 : w1.cell? ⟨w.heap.size, 2, none⟩ = some (.int .i64 0) := (blk_cell R1 2).trans rfl
        have f1 := blk_frozen R1 0
        have f2 := blk_frozen R1 1
        have f3 := blk_frozen R1 2
        have HB1 := Lib.hid (HB0.out.trans (hb.mono HB0.out.size))
        clear hb R1
        go_wp2
        refine bodyPost_ret (v := .tuple #[.agg #[.int .i64 0, .int .i64 0, .int .i64 0], .int .i64 1]) ?_ rfl ⟨rfl, ?_⟩
        · simp [results, Try.results68, go_sem, r1, r2, r3]
        · exact below_set (below_set (below_set HB1.out (Nat.le_refl _)) (Nat.le_refl _)) (Nat.le_refl _)
      · have e : ofE l id = ((id, evE l (id, 0)), 0) := by unfold ofE; rw [if_neg h1, if_neg h2, if_neg h3]
        rw [e]
        have h3' : oddE l = false := by simpa using h3
        unfold oddE at h3'
        rw [h3'] at HC
        have HR := Lib.hid hr
        have HL := Lib.hid hlen
        clear e h1 h2 h3 h3' hr hr0 hlen B0 R0
        go_enter Try.func68, Try.ntmps68
        go_wp2_with fail
        refine HC.out.mono ?_
        rintro e w1 ⟨rfl, hb⟩
        have HB1 := Lib.hid (HB0.out.trans (hb.mono HB0.out.size))
        have R1 := Lib.hid (blk_below HR0.out hb)
        clear hb
        go_wp2_with fail
        refine (eval_c A c l (id, 0) w1 (rowE_below HR.out HB1.out) HL.out).mono ?_
        rintro e w2 ⟨rfl, hb⟩
        have R2 := blk_below R1.out hb
        have r1 : w2.cell? ⟨w.heap.size, 0, none⟩ = some (.int .i64 0) := (blk_cell R2 0).trans rfl
        have r2 : w2.cell? ⟨w.heap.size, 1, none⟩ = some (.int .i64 0) := (blk_cell R2 1).trans rfl
        have r3 : w2.cell? ⟨w.heap.size, 2, none⟩ = some (.int .i64 0) := (blk_cell R2 2).trans rfl
        have f1 := blk_frozen R2 0
        have f2 := blk_frozen R2 1
        have f3 := blk_frozen R2 2
        have HB2 := Lib.hid (HB1.out.trans (hb.mono HB1.out.size))
        clear hb R2
        go_wp2
        refine bodyPost_ret (v := .tuple #[.agg #[.int .i64 id, .int .i64 (evE l (id, 0)).1, .int .i64 (evE l (id, 0)).2], .int .i64 0]) ?_ rfl ⟨rfl, ?_⟩
        · simp [results, Try.results68, go_sem, r1, r2, r3, evE]
        · exact below_set (below_set (below_set HB2.out (Nat.le_refl _)) (Nat.le_refl _)) (Nat.le_refl _)
end Go.Proofs.Ytdppmkcahfjceaa.Fl
end
section
/-
  share.apart walked: have all shares their own number, 1 to 64? With a map[int]bool that the call makes. By an AI agent.
-/
namespace Go.Proofs.Ytdppmkcahfjceaa.Fl
open Flt
open Go.RowKit Go.Proofs.YtdppmkcahfjceaaW.PrintWords Go.Proofs.YtdppmkcahfjceaaW.PrintLast Go.Proofs.YtdppmkcahfjceaaW.PrintMore
open Go.Maps (Keyed IsMap)
open Go.ChangeMaps
set_option linter.unusedVariables false
set_option linter.unusedSimpArgs false

end Go.Proofs.Ytdppmkcahfjceaa.Fl
end
section
/-
  share.Open walked: what shares open. By an AI agent.
-/
namespace Go.Proofs.Ytdppmkcahfjceaa.Fl
open Flt
open Go.RowKit Go.Proofs.YtdppmkcahfjceaaW.PrintWords Go.Proofs.YtdppmkcahfjceaaW.PrintLast Go.Proofs.YtdppmkcahfjceaaW.PrintMore
set_option linter.unusedVariables false
set_option linter.unusedSimpArgs false

end Go.Proofs.Ytdppmkcahfjceaa.Fl
end
section
/-
  What shares open, in plain terms: the sum of the values times Lagrange's factors. By an AI agent.
-/
namespace Go.Proofs.Ytdppmkcahfjceaa.Fl
open Gm
set_option linter.unusedVariables false

/-! ### a polynomial's value -/
theorem getD_ok {l : List E} (h : ∀ c ∈ l, Ok c) (i : Nat) : Ok (l.getD i (0, 0)) := by
  by_cases hi : i < l.length
  · rw [List.getD_eq_getElem?_getD, List.getElem?_eq_getElem hi]
    exact h _ (List.getElem_mem hi)
  · rw [List.getD_eq_getElem?_getD, List.getElem?_eq_none (by omega)]
    exact zero_ok
theorem mayB_eq (x : E) : mayB x.1 x.2 = decide (Ok x) := rfl
theorem oddE_iff (l : List E) : oddE l = false ↔ ∀ c ∈ l, Ok c := by
  unfold oddE
  rw [decide_eq_false_iff_not, ix_nonneg]
  constructor
  · intro h c hc
    obtain ⟨i, hi, rfl⟩ := List.getElem_of_mem hc
    refine Classical.byContradiction fun hn => h ⟨i, hi, ?_⟩
    rw [List.getD_eq_getElem?_getD, List.getElem?_eq_getElem hi]
    simp only [Option.getD_some, mayB_eq, Bool.not_eq_true', decide_eq_false_iff_not]
    exact hn
  · rintro h ⟨i, hi, hb⟩
    rw [List.getD_eq_getElem?_getD, List.getElem?_eq_getElem hi] at hb
    simp only [Option.getD_some, mayB_eq, Bool.not_eq_true', decide_eq_false_iff_not] at hb
    exact hb (h _ (List.getElem_mem hi))
/-! ### shares -/
abbrev Row := List (Int × E)
def idAt (l : Row) (i : Nat) : Int := (l.getD i (0, (0, 0))).1
def xAt (l : Row) (i : Nat) : E := (idAt l i, 0)
/-- all have their own number, 1 to 64 -/
def Apart (l : Row) : Prop := ∀ j, j < l.length → 1 ≤ idAt l j ∧ idAt l j ≤ 64 ∧ ∀ i, i < j → idAt l i ≠ idAt l j
theorem Apart.inj {l : Row} (h : Apart l) (i j : Nat) (hi : i < l.length) (hj : j < l.length) (e : xAt l i = xAt l j) : i = j := by
  have e' : idAt l i = idAt l j := (Prod.mk.inj e).1
  rcases Nat.lt_trichotomy i j with hlt | rfl | hlt
  · exact absurd e' ((h j hj).2.2 i hlt)
  · rfl
  · exact absurd e'.symm ((h i hi).2.2 j hlt)
/-! ### the document's example -/
/-! ### a bound -/
end Go.Proofs.Ytdppmkcahfjceaa.Fl
end
section
/-
  Rounds enough, whatever further; and shares by their numbers. By an AI agent.
-/
namespace Go.Proofs.Ytdppmkcahfjceaa.Fl
open Gm
set_option linter.unusedVariables false

/-! ### rounds enough -/
def Ev {α : Type} (f : Nat → Option α) (v : α) : Prop := ∃ k0, ∀ k, k0 ≤ k → f k = some v
theorem Ev.step {α : Type} {f g : Nat → Option α} {v : α} (hg : Ev g v) (h : ∀ k, f (k + 1) = g k) : Ev f v := by
  obtain ⟨k0, h0⟩ := hg
  refine ⟨k0 + 1, fun k hk => ?_⟩
  obtain ⟨k', rfl⟩ : ∃ k', k = k' + 1 := ⟨k - 1, by omega⟩
  rw [h]
  exact h0 k' (by omega)
theorem Ev.of_eq {α : Type} {f g : Nat → Option α} {v : α} (hg : Ev g v) (h : ∀ k, f k = g k) : Ev f v := by
  obtain ⟨k0, h0⟩ := hg
  exact ⟨k0, fun k hk => by rw [h]; exact h0 k hk⟩
theorem Ev.const {α : Type} {f : Nat → Option α} {v : α} (h : ∀ k, f k = some v) : Ev f v := ⟨0, fun k _ => h k⟩
theorem Ev.bind {α β : Type} {f : Nat → Option α} {g : Nat → α → Option β} {v : α} {u : β} (hf : Ev f v) (hg : Ev (fun k => g k v) u) : Ev (fun k => (f k).bind (g k)) u := by
  obtain ⟨k0, h0⟩ := hf
  obtain ⟨k1, h1⟩ := hg
  refine ⟨max k0 k1, fun k hk => ?_⟩
  show (f k).bind (g k) = some u
  rw [h0 k (by omega), Option.bind_some]
  exact h1 k (by omega)
theorem Ev.of_mono {α : Type} {f : Nat → Option α} {v : α} (h : ∀ k r, f k = some r → f (k + 1) = some r) {k0 : Nat} (h0 : f k0 = some v) : Ev f v :=
  ⟨k0, fun k hk => by
    obtain ⟨d, rfl⟩ := Nat.exists_eq_add_of_le hk
    induction d with
    | zero => exact h0
    | succ d ih => exact h _ _ (ih (by omega))⟩
end Go.Proofs.Ytdppmkcahfjceaa.Fl
end
section
/-
  What one share that is another one changes. By an AI agent.
-/
namespace Go.Proofs.Ytdppmkcahfjceaa.Fl
open Gm
set_option linter.unusedVariables false

/-- The row with another value at a. -/
def put (l : Row) (a : Nat) (v : E) : Row := l.set a (idAt l a, v)
end Go.Proofs.Ytdppmkcahfjceaa.Fl
end

