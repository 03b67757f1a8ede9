import Derived.Test.YtopijobdblfhoaaGreatPTuskChainsx0
import Derived.Test.YtopijobdblfhoaaGreatPTuskChainsx12
import Derived.Test.YtopijobdblfhoaaGreatPTuskChainsx18
import Derived.Test.YtopijobdblfhoaaGreatVTuskChainsPj
set_option linter.unusedVariables false
set_option linter.unusedSimpArgs false
/- Printed by a program of this session. -/
namespace Go.Proofs.YtopijobdblfhoaaGreat.PTuskChains
set_option maxHeartbeats 8000000
set_option maxRecDepth 100000
open Go.RowKit Go.Proofs.YtopijobdblfhoaaGreatW.PrintWords Go.Proofs.YtopijobdblfhoaaGreatW.PrintLast Go.Proofs.YtopijobdblfhoaaGreatW.PrintMore
def Fk.j0 : Nat → Bool → Int → Int → Option (Int × Int × Int)
 | 0, _, _, _ => none
 | k + 1, C0, o0, n0 => if C0 = true then (some (0, 0, 1)) else ((Gx.f o0 n0).bind fun A0 => ((Fo.f k A0).bind fun u0 => (some (Int.tmod (wrap64 (o0 * u0)) 10007, Int.tmod (wrap64 ((Int.tmod (wrap64 (10007 - n0)) 10007) * u0)) 10007, 0))))
def Fk.f (k : Nat) (a0_0 a0_1 : Int) : Option (Int × Int × Int) := (F4.f a0_0 a0_1).bind fun n0 => (if n0 = true then (if a0_0 = 0 then (Fk.j0 k (a0_1 == 0) a0_0 a0_1) else (Fk.j0 k false a0_0 a0_1)) else (Fk.j0 k true a0_0 a0_1))
theorem Fk.mono_l : ∀ k, (∀ y0 y1 y2, LeO (Fk.j0 k y0 y1 y2) (Fk.j0 (k + 1) y0 y1 y2))
 | 0 => fun _ _ _ r h => by simp [Fk.j0] at h
 | k + 1 => by
  have n0 := Fk.mono_l k
  ·
   intro y0 y1 y2; unfold Fk.j0; repeat' first | (with_reducible first | exact n0 _ _ _ | apply Fo.mono | exact LeO.refl _ | exact LeO.none _ | refine LeO.ite ?_ ?_ | refine LeO.bind ?_ (fun _ => ?_)) | exact n0 _ _ _ | refine LeO.ite ?_ ?_ | refine LeO.bind ?_ (fun _ => ?_)
theorem Fk.mono : ∀ a0 a1 k, LeO (Fk.f k a0 a1) (Fk.f (k + 1) a0 a1) := by
 intro a0 a1 k; have n0 := Fk.mono_l k; unfold Fk.f; repeat' first | (with_reducible first | exact n0 _ _ _ | apply Fo.mono | exact LeO.refl _ | exact LeO.none _ | refine LeO.ite ?_ ?_ | refine LeO.bind ?_ (fun _ => ?_)) | exact n0 _ _ _ | refine LeO.ite ?_ ?_ | refine LeO.bind ?_ (fun _ => ?_)
theorem Fk.calls (k : Nat) (a0_0 a0_1 : Int) (r1 r2 r3 : Int) (w : World) (h : Fk.f k a0_0 a0_1 = some (r1, r2, r3)) :
  Calls Tryz.prog 101 #[.agg #[.int .i64 a0_0, .int .i64 a0_1]] w fun e w' => e = .returned (.tuple #[.agg #[.int .i64 r1, .int .i64 r2], .int .i64 r3]) ∧ Below w.heap.size w w' := by
 have V1 := Tryz.underlying28; have HB := am_ (Below.refl w.heap.size w); have H := h; unfold Fk.f at H; clear h; replace H := bi H; obtain ⟨U0, A2, H⟩ := H; try dsimp only at H
 have Y0 := am_ H; clear H; go_enter Tryz.func101, Tryz.ntmps101
 go_upto_region 2 with (first | (refine bf_ 1 #[.int .i64 a0_0, .int .i64 a0_1] 28 HB ?_; intro L0 hg w4 hb n0 L1 HB; clear hb hg) | (refine bf_ 2 #[.int .i64 0, .int .i64 0] 28 HB ?_; intro C0 hg w5 hb o0 C1 HB; obtain ⟨u0, E0⟩ := tN n0 hg; replace n0 := tBb n0 hb; clear hb hg; have _ := n2 u0; obtain ⟨X0, V0, Q0, Z0⟩ := bx2 n0) | (refine gl_ (some 7) Tryz.func77 #[.agg #[.int .i64 a0_0, .int .i64 a0_1]] ?_; (with_reducible refine (F4.calls a0_0 a0_1 U0 _ A2.out).mono ?_); rintro e w8 ⟨rfl, hb⟩; refine ⟨_, rfl, ?_⟩; replace n0 := tBb n0 hb; replace o0 := tBb o0 hb; replace HB := tHb HB hb; (try clear hb)))
 (try simp only [Act.put, List.setIfInBounds_toArray, List.set_cons_zero, List.set_cons_succ])
 go_cut [19] (fun X1 wc => ∃ (kq : Nat) (I0 : Bool), X1 = .bool I0 ∧ Asc (Fk.j0 kq I0 a0_0 a0_1 = some (r1, r2, r3)) ∧ Asc (kq ≤ k) ∧ Asc (wc.heap[L0]? = some (.cells #[.int .i64 a0_0, .int .i64 a0_1] 28 (0, 0))) ∧ Asc (wc.heap[C0]? = some (.cells #[.int .i64 0, .int .i64 0] 28 (0, 0))) ∧ Asc (Below w.heap.size w wc))
 case first =>
  have H := Y0.out; clear Y0; replace H := ib H; obtain ⟨rfl, H⟩ | ⟨rfl, H⟩ := H
  ·
   by_cases c10 : a0_0 = 0
   ·
    rw [if_pos c10] at H; obtain ⟨A0, P0⟩ := et c10; clear c10
    (first | rw [A0] | (simp only [Qay, Qa3]; rw [A0]) | skip)
    have H' := am_ H; clear H; have _ := n2 u0; obtain ⟨D1, O1, N1, P1⟩ := bx2 n0; go_wp2
    go_meet
    case rel => exact ⟨_, ((a0_1 == 0)), fr, H', ⟨by first | omega | exact Nat.le_refl _⟩, ⟨gB n0⟩, ⟨gB o0⟩, ⟨bh HB⟩⟩
   rw [if_neg c10] at H; obtain ⟨A0, P0⟩ := ef c10
   (first | rw [A0] | (simp only [Qay, Qa3]; rw [A0]) | skip)
   have H' := am_ H; clear H; have _ := n2 u0; have _ := bx2 n0; go_wp2
   go_meet
   case rel => exact ⟨_, (false), fr, H', ⟨by first | omega | exact Nat.le_refl _⟩, ⟨gB n0⟩, ⟨gB o0⟩, ⟨bh HB⟩⟩
  have H' := am_ H; clear H; go_wp2
  go_meet
  case rel => exact ⟨_, (true), fr, H', ⟨by first | omega | exact Nat.le_refl _⟩, ⟨gB n0⟩, ⟨gB o0⟩, ⟨bh HB⟩⟩
 case rest =>
  clear Y0; try clear X0 V0 Q0 Z0
  obtain ⟨kq, I0, rfl, HA, Z1, n0, o0, HB⟩ := hcut
  cases kq with
  | zero => exact absurd HA.out (by simp [Fk.j0])
  | succ Y1 =>
   have H := HA.out; clear HA; simp only [Fk.j0] at H; replace H := ib H; obtain ⟨rfl, H⟩ | ⟨rfl, H⟩ := H
   ·
    replace H := oi3 H; obtain ⟨rfl, rfl, rfl⟩ := H; have _ := n2 E0; have _ := bx2 o0; go_wp2; refine bodyPost_ret (Qak rfl _ _ C0 28 #[.int .i64 0, .int .i64 0] (0, 0) _ rfl (gP o0 rfl) Tryz.underlying28 rfl (by kernel_rfl)) rfl ?_; exact ⟨fe, bh HB⟩
   replace H := bi H; obtain ⟨N0, U1, H⟩ := H; try dsimp only at H
   replace H := bi H; obtain ⟨M0, Q1, H⟩ := H; try dsimp only at H
   replace H := oi3 H; obtain ⟨rfl, rfl, rfl⟩ := H; have _ := n2 u0; have _ := bx2 n0
   go_wp2_with (first | (refine gl_ (some 22) Tryz.func114 #[.agg #[.int .i64 a0_0, .int .i64 a0_1]] ?_; (with_reducible refine (Gx.calls a0_0 a0_1 N0 _ U1.out).mono ?_); rintro e O0 ⟨rfl, hb⟩; refine ⟨_, rfl, ?_⟩; replace n0 := tBb n0 hb; replace o0 := tBb o0 hb; replace HB := tHb HB hb; (try clear hb)) | (refine gl_ (some 23) Tryz.func113 #[.int .i64 N0] ?_; (with_reducible refine (Fo.calls Y1 N0 M0 _ Q1.out).mono ?_); rintro e w' ⟨rfl, ⟨nd, rfl⟩⟩; refine ⟨_, rfl, ?_⟩; (try (rw [Qbw O0]; generalize hq_ : World.drewN O0 _ = O0; replace n0 : Asc (O0.heap[L0]? = some (.cells #[.int .i64 a0_0, .int .i64 a0_1] 28 (0, 0))) := ⟨by rw [← hq_]; exact (gB n0)⟩; replace o0 : Asc (O0.heap[C0]? = some (.cells #[.int .i64 0, .int .i64 0] 28 (0, 0))) := ⟨by rw [← hq_]; exact (gB o0)⟩; replace HB : Asc (Below w.heap.size w O0) := ⟨by rw [← hq_]; exact (bh HB)⟩; clear hq_)); have _ := bx2 n0; have _ := bx2 o0))
   refine bodyPost_ret (Qak rfl _ _ C0 28 #[.int .i64 (Int.tmod (wrap64 (a0_0 * M0)) 10007), .int .i64 (Int.tmod (wrap64 ((Int.tmod (wrap64 (10007 - a0_1)) 10007) * M0)) 10007)] (0, 0) _ rfl (gP o0 rfl) Tryz.underlying28 rfl (by kernel_rfl)) rfl ?_; exact ⟨fe, bh HB⟩

mutual
def Fh.j0 : Nat → List (S76) → Int → Bool → Option (Int × Int × Int)
 | 0, _, _, _ => none
 | k + 1, x0, x1, n0 => if n0 = true then (some (0, 0, 1)) else (Fh.l0 k x0 x1 0 1 0 1 0)
def Fh.l0 : Nat → List (S76) → Int → Int → Int → Int → Int → Int → Option (Int × Int × Int)
 | 0, _, _, _, _, _, _, _ => none
 | k + 1, x0, x1, x9, n0, A0, u0, o0 => if x9 < (x0.length : Int) then (if x9 = x1 then (Fh.l0 k x0 x1 (wrap64 (x9 + 1)) n0 A0 u0 o0) else (if 0 ≤ x9 then ((G3.f n0 A0 ((Qal x0 x9).f0) 0).bind fun C0 => (if 0 ≤ x1 then (if x1 < (x0.length : Int) then ((Gk.f ((Qal x0 x9).f0) 0 ((Qal x0 x1).f0) 0).bind fun E0 => ((G3.f u0 o0 E0.1 E0.2).bind fun M0 => (Fh.l0 k x0 x1 (wrap64 (x9 + 1)) C0.1 C0.2 M0.1 M0.2))) else (none)) else (none))) else (none))) else ((Fk.f k u0 o0).bind fun I0 => ((G3.f n0 A0 I0.1 I0.2.1).bind fun L0 => (some (L0.1, L0.2, 0))))
end
def Fh.f (k : Nat) (l0 : List (S76)) (a1 : Int) : Option (Int × Int × Int) := (F7.f k l0).bind fun n0 => (if n0 = true then (if a1 < 0 then (Fh.j0 k l0 a1 true) else (Fh.j0 k l0 a1 (decide (a1 ≥ (l0.length : Int))))) else (Fh.j0 k l0 a1 true))
def Fh.T10 : Bool × List (List Nat × List Nat) := (true, [([], []), ([], []), ([], []), ([1, 2], [1, 2]), ([3], [3]), ([4], [4]), ([5], [5]), ([0, 6], [0, 6]), ([7, 7, 0, 1, 2, 3, 4, 5, 6, 7], [7])])
def Fh.B10 : List Nat := [0, 0, 0, 6, 14, 30, 62, 127, 255]
theorem Fh.tab10 : Qcp .any (opsOf Tryz.f78 10) = Fh.T10 := by kernel_rfl
theorem Fh.bits10 : Qbi Fh.T10.2 Fh.B10 = true := by kernel_rfl
def Fh.T11 : Bool × List (List Nat × List Nat) := (true, [([], []), ([], []), ([], []), ([1, 2], [1, 2]), ([3], [3]), ([4], [4]), ([5], [5]), ([], []), ([], []), ([7, 8], [7, 8]), ([9], [9]), ([10], [10]), ([11], [11]), ([6, 12], [6, 12]), ([0, 13, 13], [0, 13]), ([14, 14, 0, 1, 2, 3, 4, 5, 6, 7, 8, 9, 10, 11, 12, 13, 14], [14])])
def Fh.B11 : List Nat := [0, 0, 0, 6, 14, 30, 62, 0, 0, 384, 896, 1920, 3968, 8190, 16383, 32767]
theorem Fh.tab11 : Qcp .any (opsOf Tryz.f78 11) = Fh.T11 := by kernel_rfl
theorem Fh.bits11 : Qbi Fh.T11.2 Fh.B11 = true := by kernel_rfl
theorem Fh.calls (k : Nat) (A0 : Option Addr) (c0 : Nat) (l0 : List (S76)) (a1 r1 : Int) (r2 r3 : Int) (w : World) (I6 : Kd.C k76 w A0 l0.length l0) (l6 : l0.length ≤ c0) (h : Fh.f k l0 a1 = some (r1, r2, r3)) :
  Calls Tryz.prog 78 #[.slice A0 l0.length c0, .int .i64 a1] w fun e w' => e = .returned (.tuple #[.agg #[.int .i64 r1, .int .i64 r2], .int .i64 r3]) ∧ Below w.heap.size w w' := by
 have W6 := Tryz.underlying28; have P5 := am_ I6; have O6 := am_ l6; clear I6 l6; have HB := am_ (Below.refl w.heap.size w); have H := h; unfold Fh.f at H; clear h; replace H := bi H; obtain ⟨W5, A3, H⟩ := H; try dsimp only at H
 have U5 := am_ H; clear H; go_enter Tryz.func78, Tryz.ntmps78
 go_upto_region 2 with (first | ((with_reducible refine gd_ 4 ?_); (try (refine Qbh (by rfl) ?_; dsimp only)); refine bf_ 4 #[.int .i64 0, .int .i64 0] 28 HB ?_; intro J2 hg w5 hb n0 o6 HB; clear hb hg) | (refine gl_ (some 13) Tryz.func76 #[.slice A0 l0.length c0] ?_; (with_reducible refine (F7.calls k _ _ l0 W5 _ ?N4 ?Q4 A3.out).mono ?_); (case N4 => exact gCB P5 HB); (case Q4 => exact O6.out); rintro e w' ⟨rfl, ⟨nd, rfl⟩⟩; refine ⟨_, rfl, ?_⟩))
 (try simp only [Act.put, List.setIfInBounds_toArray, List.set_cons_zero, List.set_cons_succ])
 go_cut [25] (fun U6 wc => ∃ (kq : Nat) (C3 : Bool), U6 = .bool C3 ∧ Asc (Fh.j0 kq l0 a1 C3 = some (r1, r2, r3)) ∧ Asc (kq ≤ k) ∧ Asc (wc.heap[J2]? = some (.cells #[.int .i64 0, .int .i64 0] 28 (0, 0))) ∧ Asc (Below w.heap.size w wc))
 case first =>
  have H := U5.out; clear U5; replace H := ib H; obtain ⟨rfl, H⟩ | ⟨rfl, H⟩ := H
  ·
   by_cases c7 : a1 < 0
   ·
    rw [if_pos c7] at H; have u3 := dT c7; clear c7
    (first | rw [u3] | (simp only [Qay, Qa3]; rw [u3]) | skip)
    have H' := am_ H; clear H; go_wp2
    go_meet
    case rel => exact ⟨_, (true), fr, H', ⟨by first | omega | exact Nat.le_refl _⟩, ⟨gB n0⟩, ⟨bh HB⟩⟩
   rw [if_neg c7] at H; have u3 := dF c7; clear c7
   (first | rw [u3] | (simp only [Qay, Qa3]; rw [u3]) | skip)
   have H' := am_ H; clear H; go_wp2
   go_meet
   case rel => exact ⟨_, (decide (a1 ≥ (l0.length : Int))), fr, H', ⟨by first | omega | exact Nat.le_refl _⟩, ⟨gB n0⟩, ⟨bh HB⟩⟩
  have H' := am_ H; clear H; go_wp2
  go_meet
  case rel => exact ⟨_, (true), fr, H', ⟨by first | omega | exact Nat.le_refl _⟩, ⟨gB n0⟩, ⟨bh HB⟩⟩
 case rest =>
  clear U5; obtain ⟨kq, C3, rfl, HA, L5, n0, HB⟩ := hcut
  cases kq with
  | zero => exact absurd HA.out (by simp [Fh.j0])
  | succ p6 =>
   have H := HA.out; clear HA; simp only [Fh.j0] at H; replace H := ib H; obtain ⟨rfl, H⟩ | ⟨rfl, H⟩ := H
   ·
    replace H := oi3 H; obtain ⟨rfl, rfl, rfl⟩ := H; have _ := bx2 n0; go_wp2; refine bodyPost_ret (Qak rfl _ _ J2 28 #[.int .i64 0, .int .i64 0] (0, 0) _ rfl (gP n0 rfl) Tryz.underlying28 rfl (by kernel_rfl)) rfl ?_; exact ⟨fe, bh HB⟩
   have H' := am_ H; clear H
   go_wp2_with (first | ((with_reducible refine gd_ 7 ?_); (try (refine Qbh (by rfl) ?_; dsimp only)); refine bf_ 7 #[.int .i64 0, .int .i64 0] 28 HB ?_; intro M0 hg Z6 hb o0 D6 HB; obtain ⟨U1, P0⟩ := tN n0 hg; replace n0 := tBb n0 hb; clear hb hg; have _ := n2 P0; obtain ⟨L4, M4, U4, K4⟩ := bx2 o0) | ((with_reducible refine gd_ 8 ?_); (try (refine Qbh (by rfl) ?_; dsimp only)); refine be_ 8 #[.int .i64 0, .int .i64 0] 28 ?_; intro Q1 hg k7 hbox hb; have u0 := am_ hbox; have z6 := tG HB hg; replace HB := tHb HB hb; obtain ⟨P1, Q0⟩ := tN n0 hg; replace n0 := tBb n0 hb; have U0 := am_ ((by rw [hg]; exact Nat.ne_of_lt (Qb7 (g := M0) (o := .cells #[.int .i64 1, .int .i64 0] 28 (0, 0)) (gP o0 rfl)) : M0 ≠ Q1)); have N0 := am_ ((by rw [hg]; exact Nat.ne_of_gt (Qb7 (g := M0) (o := .cells #[.int .i64 1, .int .i64 0] 28 (0, 0)) (gP o0 rfl)) : Q1 ≠ M0)); replace o0 := am_ (Qam (g := M0) (o := .cells #[.int .i64 1, .int .i64 0] 28 (0, 0)) (gP o0 rfl) hb); clear hb hbox hg; have _ := n2 Q0; have _ := n2 N0; obtain ⟨R4, V4, O4, I4⟩ := bx2 u0))
   go_loopg [9] p6 (fun kq v9 w' => ∃ (O0 : Int) (I0 : Int) (L0 : Int) (E0 : Int) (C0 : Int), v9 = .int .i64 O0 ∧ Asc (Fh.l0 kq l0 a1 O0 I0 L0 E0 C0 = some (r1, r2, r3)) ∧ Asc (kq ≤ p6) ∧ Asc (w'.heap[J2]? = some (.cells #[.int .i64 0, .int .i64 0] 28 (0, 0))) ∧ Asc (w'.heap[M0]? = some (.cells #[.int .i64 I0, .int .i64 L0] 28 (0, 0))) ∧ Asc (w'.heap[Q1]? = some (.cells #[.int .i64 E0, .int .i64 C0] 28 (0, 0))) ∧ Asc (Below w.heap.size w w'))
   case atStart => exact ⟨(0), (1), (0), (1), (0), fr, H', ⟨Nat.le_refl _⟩, ⟨gB n0⟩, ⟨gB o0⟩, ⟨gP u0 rfl⟩, ⟨bh HB⟩⟩
   case round =>
    clear H'; try clear c8 L4 M4 R4 V4 U4 K4 O4 I4
    obtain ⟨O0, I0, L0, E0, C0, rfl, HA, J5, n0, o0, u0, HB⟩ := hrel
    cases gk with
    | zero => exact absurd HA.out (by simp [Fh.l0])
    | succ k2 =>
     have H := HA.out; clear HA; simp only [Fh.l0] at H
     by_cases k4 : O0 < (l0.length : Int)
     ·
      rw [if_pos k4] at H; have W4 := dT k4; clear k4
      by_cases c5 : O0 = a1
      ·
       rw [if_pos c5] at H; obtain ⟨C4, E4⟩ := et c5; clear c5; have H' := am_ H; clear H; go_wp2; go_roundg k2
       case measure => have := L5.out; have := J5.out; omega
       case rel => exact ⟨(wrap64 (O0 + 1)), (I0), (L0), (E0), (C0), fr, H', ⟨by have := L5.out; have := J5.out; omega⟩, ⟨gB n0⟩, ⟨gB o0⟩, ⟨gB u0⟩, ⟨bh HB⟩⟩
      rw [if_neg c5] at H; obtain ⟨C4, E4⟩ := ef c5; revert H; refine gi (fun A6 H => ?_); replace H := bi H; obtain ⟨⟨L2, N2⟩, N6, H⟩ := H; try dsimp only at H
      revert H; refine gi (fun j6 H => ?_); revert H; refine gi (fun C6 H => ?_); replace H := bi H; obtain ⟨⟨L3, Z3⟩, S6, H⟩ := H; try dsimp only at H
      replace H := bi H; obtain ⟨⟨P4, X4⟩, V6, H⟩ := H; try dsimp only at H
      have H' := am_ H; clear H; try go_wp2
      replace n0 := am_ (Qag n0.out); replace o0 := am_ (Qag o0.out); replace u0 := am_ (Qag u0.out); replace HB := am_ (Qaj HB.out); have N3 : 0 ≤ (O0 : Int) := dt; have U3 : O0 < (l0.length : Int) := dt; obtain ⟨J3, Z5, Y0, N1, O1⟩ := Qb1 P5.out O0 N3 U3; have Q2 := O1; have Y2 := N1; have V2 := Y0; cases Z5; replace Y0 := ce HB Y0; replace N1 := ce HB N1; replace O1 := ce HB O1; replace N3 := eq_true N3; replace U3 := eq_true U3; refine st_ 9 [8] (k2_ o0 (cd_ (ce HB (by first | exact V2)) (cd_ (ce HB (by first | exact Y2)) (cd_ (ce HB (by first | exact Q2)) ct)))) (fun hHeld => ?_); refine Qav Fh.tab10 Fh.bits10 (fun HT_ HW_ => ?_); generalize wr.drew = i7 at n0 o0 u0 HB Y0 N1 O1 hHeld ⊢; refine pu_ 1 (some 39) 2 HT_ (h := ?_); refine pu_ 2 (some 40) 6 HT_ (h := ?_); refine pu_ 3 (some 41) 14 HT_ (h := ?_); refine pu_ 4 (some 42) 30 HT_ (h := ?_); refine tk_ 0 (some 38) 31 HT_ HW_ hHeld (h := ?_); refine tk_ 5 (some 43) 63 HT_ HW_ hHeld (h := ?_); refine pu_ 6 (some 44) 127 HT_ (h := ?_); refine on_ 7 (some 45) 255 HT_ (fun K hK => ?_); refine Qdo Tryz.func80 #[.agg #[.int .i64 I0, .int .i64 L0], .agg #[.int .i64 ((Qal l0 O0).f0), .int .i64 0]] ?_
      with_reducible refine (G3.calls I0 L0 ((Qal l0 O0).f0) 0 L2 N2 _ N6.out).mono ?_
      rintro e Y3 ⟨rfl, hb⟩; refine ⟨_, rfl, ?_⟩; replace n0 := tBb n0 hb; replace o0 := tBb o0 hb; replace u0 := tBb u0 hb; replace HB := tHb HB hb
      (try clear hb)
      (try clear J6)
      (try clear hk)
      (try clear hi)
      refine hK.out _ _ (m2_ o0 (m0_ (ce HB (by first | exact V2)) (m0_ (ce HB (by first | exact Y2)) (m0_ (ce HB (by first | exact Q2)) ct)))) (fun hHeld => ?_); clear hK K; refine Qbb (a' := ?_) ?_ ?_; rotate_left
      ·
       show Act.put _ (some 45) _ = _; exact pt_
      refine Qe2 (i := 8) (N := none) #[true, true, true, true, true, true, true, true, true] rfl rfl (Qe0 HT_.out (by kernel_rfl)) (by decide) (fun K hK => ?_); have Q6 : Y3.cell? ⟨M0, 0, none⟩ = some (.int .i64 I0) := (Qaa o0.out 0).trans rfl; have m6 := Qad o0.out 0; have k5 := U1.out; have M5 := N0.out; have s5 := P0.out; have l5 := U0.out; have K6 : Y3.cell? ⟨M0, 1, none⟩ = some (.int .i64 L0) := (Qaa o0.out 1).trans rfl; have k6 := Qad o0.out 1; have D5 := U1.out; have N5 := N0.out; have E5 := P0.out; have O5 := U0.out; refine Qiv (w1 := ?_) (by rfl) rfl ?_ ?_; rotate_left
      ·
       go_simp; rfl
      refine hK.out _ _ ?_; clear hK K; refine Qbt (Qbc HT_.out (by kernel_rfl)) ?_; have S5 : Asc (((Y3.setCell ⟨M0, 0, none⟩ (.int .i64 L2)).setCell ⟨M0, 1, none⟩ (.int .i64 N2)).heap[J2]? = some (.cells #[.int .i64 0, .int .i64 0] 28 (0, 0))) := ⟨gB n0⟩; have i6 : Asc (((Y3.setCell ⟨M0, 0, none⟩ (.int .i64 L2)).setCell ⟨M0, 1, none⟩ (.int .i64 N2)).heap[M0]? = some (.cells #[.int .i64 L2, .int .i64 N2] 28 (0, 0))) := ⟨gP o0 rfl⟩; have c6 : Asc (((Y3.setCell ⟨M0, 0, none⟩ (.int .i64 L2)).setCell ⟨M0, 1, none⟩ (.int .i64 N2)).heap[Q1]? = some (.cells #[.int .i64 E0, .int .i64 C0] 28 (0, 0))) := ⟨gB u0⟩; have Y5 : Asc (Below w.heap.size w ((Y3.setCell ⟨M0, 0, none⟩ (.int .i64 L2)).setCell ⟨M0, 1, none⟩ (.int .i64 N2))) := ⟨bh HB⟩
      (try clear n0)
      (try clear o0)
      (try clear u0)
      (try clear HB)
      generalize ((Y3.setCell ⟨M0, 0, none⟩ (.int .i64 L2)).setCell ⟨M0, 1, none⟩ (.int .i64 N2)) = L6 at S5 i6 c6 Y5 ⊢; have n0 := S5; have o0 := i6; have u0 := c6; have HB := Y5; clear S5 i6 c6 Y5; try go_wp2
      replace n0 := am_ (Qag n0.out); replace o0 := am_ (Qag o0.out); replace u0 := am_ (Qag u0.out); replace HB := am_ (Qaj HB.out); have Q3 : 0 ≤ (O0 : Int) := dt; have X3 : O0 < (l0.length : Int) := dt; obtain ⟨S4, R5, Z0, D1, X0⟩ := Qb1 P5.out O0 Q3 X3; have V1 := X0; have C2 := D1; have D2 := Z0; obtain rfl : J3 = S4 := (by injection R5); replace Z0 := ce HB Z0; replace D1 := ce HB D1; replace X0 := ce HB X0; replace Q3 := eq_true Q3; replace X3 := eq_true X3; have V3 : 0 ≤ (a1 : Int) := dt; have S3 : a1 < (l0.length : Int) := dt; obtain ⟨Z4, X5, V0, C1, L1⟩ := Qb1 P5.out a1 V3 S3; have Y1 := L1; have Z1 := C1; have X1 := V0; obtain rfl : J3 = Z4 := (by injection X5); replace V0 := ce HB V0; replace C1 := ce HB C1; replace L1 := ce HB L1; replace V3 := eq_true V3; replace S3 := eq_true S3; refine st_ 16 [15] (k2_ u0 (cd_ (ce HB (by first | exact D2)) (cd_ (ce HB (by first | exact C2)) (cd_ (ce HB (by first | exact V1)) (cd_ (ce HB (by first | exact X1)) (cd_ (ce HB (by first | exact Z1)) (cd_ (ce HB (by first | exact Y1)) ct))))))) (fun hHeld => ?_); refine Qav Fh.tab11 Fh.bits11 (fun HT_ HW_ => ?_); generalize L6.drew = j7 at n0 o0 u0 HB Z0 D1 X0 V0 C1 L1 hHeld ⊢; refine pu_ 1 (some 47) 2 HT_ (h := ?_); refine pu_ 2 (some 48) 6 HT_ (h := ?_); refine pu_ 3 (some 49) 14 HT_ (h := ?_); refine pu_ 4 (some 50) 30 HT_ (h := ?_); refine pu_ 7 (some 53) 158 HT_ (h := ?_); refine pu_ 8 (some 54) 414 HT_ (h := ?_); refine pu_ 9 (some 55) 926 HT_ (h := ?_); refine pu_ 10 (some 56) 1950 HT_ (h := ?_); refine tk_ 0 (some 46) 1951 HT_ HW_ hHeld (h := ?_); refine tk_ 5 (some 51) 1983 HT_ HW_ hHeld (h := ?_); refine pu_ 6 (some 52) 2047 HT_ (h := ?_); refine tk_ 11 (some 57) 4095 HT_ HW_ hHeld (h := ?_); refine pu_ 12 (some 58) 8191 HT_ (h := ?_); refine on_ 13 (some 59) 16383 HT_ (fun K hK => ?_); refine Qdo Tryz.func100 #[.agg #[.int .i64 ((Qal l0 O0).f0), .int .i64 0], .agg #[.int .i64 ((Qal l0 a1).f0), .int .i64 0]] ?_
      with_reducible refine (Gk.calls ((Qal l0 O0).f0) 0 ((Qal l0 a1).f0) 0 L3 Z3 _ S6.out).mono ?_
      rintro e Y6 ⟨rfl, hb⟩; refine ⟨_, rfl, ?_⟩; replace n0 := tBb n0 hb; replace o0 := tBb o0 hb; replace u0 := tBb u0 hb; replace HB := tHb HB hb
      (try clear hb)
      (try clear J6)
      (try clear hk)
      (try clear hi)
      refine hK.out _ _ (m2_ u0 (m0_ (ce HB (by first | exact D2)) (m0_ (ce HB (by first | exact C2)) (m0_ (ce HB (by first | exact V1)) (m0_ (ce HB (by first | exact X1)) (m0_ (ce HB (by first | exact Z1)) (m0_ (ce HB (by first | exact Y1)) ct))))))) (fun hHeld => ?_); clear hK K; refine Qbb (a' := ?_) ?_ ?_; rotate_left
      ·
       show Act.put _ (some 59) _ = _; exact pt_
      refine on_ 14 (some 60) 32767 HT_ (fun K hK => ?_); refine Qdo Tryz.func80 #[.agg #[.int .i64 E0, .int .i64 C0], .agg #[.int .i64 L3, .int .i64 Z3]] ?_
      with_reducible refine (G3.calls E0 C0 L3 Z3 P4 X4 _ V6.out).mono ?_
      rintro e s6 ⟨rfl, hb⟩; refine ⟨_, rfl, ?_⟩; replace n0 := tBb n0 hb; replace o0 := tBb o0 hb; replace u0 := tBb u0 hb; replace HB := tHb HB hb
      (try clear hb)
      (try clear J6)
      (try clear hk)
      (try clear hi)
      refine hK.out _ _ (m2_ u0 (m0_ (ce HB (by first | exact D2)) (m0_ (ce HB (by first | exact C2)) (m0_ (ce HB (by first | exact V1)) (m0_ (ce HB (by first | exact X1)) (m0_ (ce HB (by first | exact Z1)) (m0_ (ce HB (by first | exact Y1)) ct))))))) (fun hHeld => ?_); clear hK K; refine Qbb (a' := ?_) ?_ ?_; rotate_left
      ·
       show Act.put _ (some 60) _ = _; exact pt_
      refine Qe2 (i := 15) (N := none) #[true, true, true, true, true, true, true, true, true, true, true, true, true, true, true, true] rfl rfl (Qe0 HT_.out (by kernel_rfl)) (by decide) (fun K hK => ?_); have R6 : s6.cell? ⟨Q1, 0, none⟩ = some (.int .i64 E0) := (Qaa u0.out 0).trans rfl; have E6 := Qad u0.out 0; have A5 := P1.out; have C5 := U0.out; have Q5 := Q0.out; have i5 := N0.out; have M6 : s6.cell? ⟨Q1, 1, none⟩ = some (.int .i64 C0) := (Qaa u0.out 1).trans rfl; have q6 := Qad u0.out 1; have m5 := P1.out; have p5 := U0.out; have K5 := Q0.out; have I5 := N0.out; refine Qiv (w1 := ?_) (by rfl) rfl ?_ ?_; rotate_left
      ·
       go_simp; rfl
      refine hK.out _ _ ?_; clear hK K; refine Qbt (Qbc HT_.out (by kernel_rfl)) ?_; try go_wp2
      go_roundg k2
      case measure => have := L5.out; have := J5.out; omega
      case rel => exact ⟨(wrap64 (O0 + 1)), (L2), (N2), (P4), (X4), fr, H', ⟨by have := L5.out; have := J5.out; omega⟩, ⟨gB n0⟩, ⟨gB o0⟩, ⟨gP u0 rfl⟩, ⟨bh HB⟩⟩
     rw [if_neg k4] at H; have W4 := dF k4; clear k4; replace H := bi H; obtain ⟨⟨I3, D3, V5⟩, P6, H⟩ := H; try dsimp only at H
     replace H := bi H; obtain ⟨⟨J4, D4⟩, X6, H⟩ := H; try dsimp only at H
     replace H := oi3 H; obtain ⟨rfl, rfl, rfl⟩ := H; have _ := n2 Q0; have _ := n2 N0; have _ := bx2 u0
     go_wp2_with (first | (refine gl_ (some 63) Tryz.func101 #[.agg #[.int .i64 E0, .int .i64 C0]] ?_; (with_reducible refine (Fk.calls k2 E0 C0 I3 D3 V5 _ P6.out).mono ?_); rintro e g7 ⟨rfl, hb⟩; refine ⟨_, rfl, ?_⟩; replace n0 := tBb n0 hb; replace o0 := tBb o0 hb; replace u0 := tBb u0 hb; replace HB := tHb HB hb; (try clear hb)) | ((with_reducible refine gd_ 10 ?_); (try (refine Qbh (by rfl) ?_; dsimp only)); refine bf_ 10 #[.int .i64 0, .int .i64 0] 28 HB ?_; intro Y4 hg d7 hb s3 r6 HB; obtain ⟨u4, Z2⟩ := tN n0 hg; replace n0 := tBb n0 hb; obtain ⟨s4, m3⟩ := tN o0 hg; replace o0 := tBb o0 hb; obtain ⟨m4, k3⟩ := tN u0 hg; replace u0 := tBb u0 hb; clear hb hg; have _ := n2 Z2; have _ := n2 m3; have _ := n2 k3; have _ := bx2 s3; have _ := n2 P0; have _ := bx2 o0) | (refine gl_ (some 68) Tryz.func80 #[.agg #[.int .i64 I0, .int .i64 L0], .agg #[.int .i64 I3, .int .i64 D3]] ?_; (with_reducible refine (G3.calls I0 L0 I3 D3 J4 D4 _ X6.out).mono ?_); rintro e f7 ⟨rfl, hb⟩; refine ⟨_, rfl, ?_⟩; replace n0 := tBb n0 hb; replace o0 := tBb o0 hb; replace u0 := tBb u0 hb; replace s3 := am_ (Qam (g := Y4) (o := .cells #[.int .i64 I3, .int .i64 D3] 28 (0, 0)) (gP s3 rfl) hb); replace HB := tHb HB hb; (try clear hb); have _ := bx2 n0))
     refine bodyPost_ret (Qak rfl _ _ J2 28 #[.int .i64 J4, .int .i64 D4] (0, 0) _ rfl (gP n0 rfl) Tryz.underlying28 rfl (by kernel_rfl)) rfl ?_; exact ⟨fe, bh HB⟩
mutual
def Fa.j0 : Nat → List (S76) → Bool → Option (Int × Int × Int)
 | 0, _, _ => none
 | k + 1, x0, n0 => if n0 = true then (some (0, 0, 1)) else (Fa.l0 k x0 0 0 0)
def Fa.l0 : Nat → List (S76) → Int → Int → Int → Option (Int × Int × Int)
 | 0, _, _, _, _ => none
 | k + 1, x0, x6, n0, o0 => if x6 < (x0.length : Int) then (if 0 ≤ x6 then ((F4.f ((Qal x0 x6).f1.f0) ((Qal x0 x6).f1.f1)).bind fun E0 => (if E0 = true then ((Fh.f k x0 x6).bind fun A0 => ((G3.f ((Qal x0 x6).f1.f0) ((Qal x0 x6).f1.f1) A0.1 A0.2.1).bind fun u0 => ((Gi.f n0 o0 u0.1 u0.2).bind fun C0 => (Fa.l0 k x0 (wrap64 (x6 + 1)) C0.1 C0.2)))) else (some (0, 0, 1)))) else (none)) else (some (n0, o0, 0))
end
def Fa.f (k : Nat) (l0 : List (S76)) : Option (Int × Int × Int) := (F7.f k l0).bind fun n0 => (if n0 = true then (Fa.j0 k l0 ((l0.length : Int) == 0)) else (Fa.j0 k l0 true))
def Fa.T12 : Bool × List (List Nat × List Nat) := (true, [([], []), ([], []), ([], []), ([1, 2], [1, 2]), ([3], [3]), ([4], [4]), ([], []), ([5, 6], [5, 6]), ([0, 7, 7], [0, 7]), ([8, 8, 0, 1, 2, 3, 4, 5, 6, 7, 8], [8])])
def Fa.B12 : List Nat := [0, 0, 0, 6, 14, 30, 0, 126, 255, 511]
theorem Fa.tab12 : Qcp .any (opsOf Tryz.f55 12) = Fa.T12 := by kernel_rfl
theorem Fa.bits12 : Qbi Fa.T12.2 Fa.B12 = true := by kernel_rfl
theorem Fa.calls (k : Nat) (A0 : Option Addr) (c0 : Nat) (l0 : List (S76)) (r1 r2 r3 : Int) (w : World) (U4 : Kd.C k76 w A0 l0.length l0) (I4 : l0.length ≤ c0) (h : Fa.f k l0 = some (r1, r2, r3)) :
  Calls Tryz.prog 55 #[.slice A0 l0.length c0] w fun e w' => e = .returned (.tuple #[.agg #[.int .i64 r1, .int .i64 r2], .int .i64 r3]) ∧ Below w.heap.size w w' := by
 have l5 := Tryz.underlying28; have Q3 := am_ U4; have L4 := am_ I4; clear U4 I4; have HB := am_ (Below.refl w.heap.size w); have H := h; unfold Fa.f at H; clear h; replace H := bi H; obtain ⟨D4, A2, H⟩ := H; try dsimp only at H
 have u4 := am_ H; clear H; go_enter Tryz.func55, Tryz.ntmps55
 go_upto_region 2 with (first | ((with_reducible refine gd_ 2 ?_); (try (refine Qbh (by rfl) ?_; dsimp only)); refine bf_ 2 #[.int .i64 0, .int .i64 0] 28 HB ?_; intro O1 hg w4 hb n0 P4 HB; clear hb hg) | (refine gl_ (some 11) Tryz.func76 #[.slice A0 l0.length c0] ?_; (with_reducible refine (F7.calls k _ _ l0 D4 _ ?Y1 ?Z1 A2.out).mono ?_); (case Y1 => exact gCB Q3 HB); (case Z1 => exact L4.out); rintro e w' ⟨rfl, ⟨nd, rfl⟩⟩; refine ⟨_, rfl, ?_⟩))
 (try simp only [Act.put, List.setIfInBounds_toArray, List.set_cons_zero, List.set_cons_succ])
 go_cut [18] (fun i5 wc => ∃ (kq : Nat) (C2 : Bool), i5 = .bool C2 ∧ Asc (Fa.j0 kq l0 C2 = some (r1, r2, r3)) ∧ Asc (kq ≤ k) ∧ Asc (wc.heap[O1]? = some (.cells #[.int .i64 0, .int .i64 0] 28 (0, 0))) ∧ Asc (Below w.heap.size w wc))
 case first =>
  have H := u4.out; clear u4; replace H := ib H; obtain ⟨rfl, H⟩ | ⟨rfl, H⟩ := H
  ·
   have H' := am_ H; clear H; go_wp2
   go_meet
   case rel => exact ⟨_, (((l0.length : Int) == 0)), fr, H', ⟨by first | omega | exact Nat.le_refl _⟩, ⟨gB n0⟩, ⟨bh HB⟩⟩
  have H' := am_ H; clear H; go_wp2
  go_meet
  case rel => exact ⟨_, (true), fr, H', ⟨by first | omega | exact Nat.le_refl _⟩, ⟨gB n0⟩, ⟨bh HB⟩⟩
 case rest =>
  clear u4; obtain ⟨kq, C2, rfl, HA, S4, n0, HB⟩ := hcut
  cases kq with
  | zero => exact absurd HA.out (by simp [Fa.j0])
  | succ J4 =>
   have H := HA.out; clear HA; simp only [Fa.j0] at H; replace H := ib H; obtain ⟨rfl, H⟩ | ⟨rfl, H⟩ := H
   ·
    replace H := oi3 H; obtain ⟨rfl, rfl, rfl⟩ := H; have _ := bx2 n0; go_wp2; refine bodyPost_ret (Qak rfl _ _ O1 28 #[.int .i64 0, .int .i64 0] (0, 0) _ rfl (gP n0 rfl) Tryz.underlying28 rfl (by kernel_rfl)) rfl ?_; exact ⟨fe, bh HB⟩
   have H' := am_ H; clear H
   go_wp2_with (first | ((with_reducible refine gd_ 5 ?_); (try (refine Qbh (by rfl) ?_; dsimp only)); refine bf_ 5 #[.int .i64 0, .int .i64 0] 28 HB ?_; intro D2 hg w8 hb o0 R4 HB; obtain ⟨P0, L0⟩ := tN n0 hg; replace n0 := tBb n0 hb; clear hb hg; have _ := n2 L0; obtain ⟨s3, L3, N3, D3⟩ := bx2 o0))
   go_loopg [6] J4 (fun kq v6 w' => ∃ (u0 : Int) (Q0 : Int) (U0 : Int) (C0 : Int) (E0 : Int), v6 = .int .i64 u0 ∧ Asc (Fa.l0 kq l0 u0 C0 E0 = some (r1, r2, r3)) ∧ Asc (kq ≤ J4) ∧ Asc (w'.heap[O1]? = some (.cells #[.int .i64 Q0, .int .i64 U0] 28 (0, 0))) ∧ Asc (w'.heap[D2]? = some (.cells #[.int .i64 C0, .int .i64 E0] 28 (0, 0))) ∧ Asc (Below w.heap.size w w'))
   case atStart => exact ⟨(0), (0), (0), (0), (0), fr, H', ⟨Nat.le_refl _⟩, ⟨gB n0⟩, ⟨gP o0 rfl⟩, ⟨bh HB⟩⟩
   case round =>
    clear H'; try clear c6 s3 L3 N3 D3
    obtain ⟨u0, Q0, U0, C0, E0, rfl, HA, M4, n0, o0, HB⟩ := hrel
    cases gk with
    | zero => exact absurd HA.out (by simp [Fa.l0])
    | succ k2 =>
     have H := HA.out; clear HA; simp only [Fa.l0] at H
     by_cases m3 : u0 < (l0.length : Int)
     ·
      rw [if_pos m3] at H; have I3 := dT m3; clear m3; revert H; refine gi (fun K4 H => ?_); replace H := bi H; obtain ⟨m5, V4, H⟩ := H; try dsimp only at H
      replace H := ib H; obtain ⟨rfl, H⟩ | ⟨rfl, H⟩ := H
      ·
       replace H := bi H; obtain ⟨⟨V1, X1, s4⟩, c5, H⟩ := H; try dsimp only at H
       replace H := bi H; obtain ⟨⟨Q2, Z2⟩, s5, H⟩ := H; try dsimp only at H
       replace H := bi H; obtain ⟨⟨u3, C3⟩, k5, H⟩ := H; try dsimp only at H
       have H' := am_ H; clear H; have P1 : 0 ≤ (u0 : Int) := dt; have Q1 : u0 < (l0.length : Int) := dt; obtain ⟨J2, Y2, O0, M0, N0⟩ := Qb1 Q3.out u0 P1 Q1; cases Y2; replace O0 := ce HB O0; replace M0 := ce HB M0; replace N0 := ce HB N0; replace P1 := eq_true P1; replace Q1 := eq_true Q1; try go_wp2_with (first | (refine gl_ (some 32) Tryz.func77 #[.agg #[.int .i64 ((Qal l0 u0).f1.f0), .int .i64 ((Qal l0 u0).f1.f1)]] ?_; (with_reducible refine (F4.calls ((Qal l0 u0).f1.f0) ((Qal l0 u0).f1.f1) true _ V4.out).mono ?_); rintro e C5 ⟨rfl, hb⟩; refine ⟨_, rfl, ?_⟩; replace n0 := tBb n0 hb; replace o0 := tBb o0 hb; replace HB := tHb HB hb; (try clear hb)) | (refine gl_ (some 39) Tryz.func78 #[.slice (some J2) l0.length c0, .int .i64 u0] ?_; (with_reducible refine (Fh.calls k2 _ _ l0 u0 V1 X1 s4 _ ?Y1 ?Z1 c5.out).mono ?_); (case Y1 => exact gCB Q3 HB); (case Z1 => exact L4.out); rintro e A5 ⟨rfl, hb⟩; refine ⟨_, rfl, ?_⟩; replace n0 := tBb n0 hb; replace o0 := tBb o0 hb; replace HB := tHb HB hb; (try clear hb)) | ((with_reducible refine gd_ 8 ?_); (try (refine Qbh (by rfl) ?_; dsimp only)); refine bf_ 8 #[.int .i64 0, .int .i64 0] 28 HB ?_; intro L2 hg Z4 hb I0 N4 HB; obtain ⟨k3, U1⟩ := tN n0 hg; replace n0 := tBb n0 hb; obtain ⟨C1, V0⟩ := tN o0 hg; replace o0 := tBb o0 hb; clear hb hg; have _ := n2 U1; have _ := n2 V0; have _ := bx2 I0) | ((with_reducible refine Qar (t := 28) (p := 8) rfl ?_); refine se_ 28 8 ((Z4.setCell ⟨L2, 0, none⟩ (.int .i64 V1)).setCell ⟨L2, 1, none⟩ (.int .i64 X1)) ?_; intro X4 hw; replace n0 := sB n0 hw; replace o0 := sB o0 hw; replace I0 := sP #[.int .i64 V1, .int .i64 X1] I0 hw; replace HB := sH HB hw; clear hw))
       replace n0 := am_ (Qag n0.out); replace o0 := am_ (Qag o0.out); replace I0 := am_ (Qag I0.out); replace HB := am_ (Qaj HB.out); have N2 : 0 ≤ (u0 : Int) := dt; have V2 : u0 < (l0.length : Int) := dt; obtain ⟨J3, C4, X0, Y0, Z0⟩ := Qb1 Q3.out u0 N2 V2; have N1 := Z0; have D1 := Y0; have L1 := X0; obtain rfl : J2 = J3 := (by injection C4); replace X0 := ce HB X0; replace Y0 := ce HB Y0; replace Z0 := ce HB Z0; replace N2 := eq_true N2; replace V2 := eq_true V2; refine st_ 10 [9] (k2_ o0 (k2_ I0 (cd_ (ce HB (by first | exact L1)) (cd_ (ce HB (by first | exact D1)) (cd_ (ce HB (by first | exact N1)) ct))))) (fun hHeld => ?_); refine Qav Fa.tab12 Fa.bits12 (fun HT_ HW_ => ?_); generalize X4.drew = E5 at n0 o0 I0 HB X0 Y0 Z0 hHeld ⊢; refine pu_ 1 (some 43) 2 HT_ (h := ?_); refine pu_ 2 (some 44) 6 HT_ (h := ?_); refine pu_ 3 (some 45) 14 HT_ (h := ?_); refine pu_ 4 (some 46) 30 HT_ (h := ?_); refine tk_ 0 (some 42) 31 HT_ HW_ hHeld (h := ?_); refine tk_ 5 (some 47) 63 HT_ HW_ hHeld (h := ?_); refine tk_ 6 (some 48) 127 HT_ HW_ hHeld (h := ?_); refine on_ 7 (some 49) 255 HT_ (fun K hK => ?_); refine Qdo Tryz.func80 #[.agg #[.int .i64 ((Qal l0 u0).f1.f0), .int .i64 ((Qal l0 u0).f1.f1)], .agg #[.int .i64 V1, .int .i64 X1]] ?_
       with_reducible refine (G3.calls ((Qal l0 u0).f1.f0) ((Qal l0 u0).f1.f1) V1 X1 Q2 Z2 _ s5.out).mono ?_
       rintro e D5 ⟨rfl, hb⟩; refine ⟨_, rfl, ?_⟩; replace n0 := tBb n0 hb; replace o0 := tBb o0 hb; replace I0 := tBb I0 hb; replace HB := tHb HB hb
       (try clear hb)
       (try clear p5)
       (try clear hk)
       (try clear hi)
       refine hK.out _ _ (m2_ o0 (m2_ I0 (m0_ (ce HB (by first | exact L1)) (m0_ (ce HB (by first | exact D1)) (m0_ (ce HB (by first | exact N1)) ct))))) (fun hHeld => ?_); clear hK K; refine Qbb (a' := ?_) ?_ ?_; rotate_left
       ·
        show Act.put _ (some 49) _ = _; exact pt_
       refine on_ 8 (some 50) 511 HT_ (fun K hK => ?_); refine Qdo Tryz.func79 #[.agg #[.int .i64 C0, .int .i64 E0], .agg #[.int .i64 Q2, .int .i64 Z2]] ?_
       with_reducible refine (Gi.calls C0 E0 Q2 Z2 u3 C3 _ k5.out).mono ?_
       rintro e O4 ⟨rfl, hb⟩; refine ⟨_, rfl, ?_⟩; replace n0 := tBb n0 hb; replace o0 := tBb o0 hb; replace I0 := tBb I0 hb; replace HB := tHb HB hb
       (try clear hb)
       (try clear p5)
       (try clear hk)
       (try clear hi)
       refine hK.out _ _ (m2_ o0 (m2_ I0 (m0_ (ce HB (by first | exact L1)) (m0_ (ce HB (by first | exact D1)) (m0_ (ce HB (by first | exact N1)) ct))))) (fun hHeld => ?_); clear hK K; refine Qbb (a' := ?_) ?_ ?_; rotate_left
       ·
        show Act.put _ (some 50) _ = _; exact pt_
       refine Qe2 (i := 9) (N := none) #[true, true, true, true, true, true, true, true, true, true] rfl rfl (Qe0 HT_.out (by kernel_rfl)) (by decide) (fun K hK => ?_); have W4 : O4.cell? ⟨D2, 0, none⟩ = some (.int .i64 C0) := (Qaa o0.out 0).trans rfl; have E4 := Qad o0.out 0; have V3 := P0.out; have Z3 := V0.out; have X3 := L0.out; have k4 := C1.out; have Y4 : O4.cell? ⟨D2, 1, none⟩ = some (.int .i64 E0) := (Qaa o0.out 1).trans rfl; have Q4 := Qad o0.out 1; have S3 := P0.out; have m4 := V0.out; have Y3 := L0.out; have U3 := C1.out; refine Qiv (w1 := ?_) (by rfl) rfl ?_ ?_; rotate_left
       ·
        go_simp; rfl
       refine hK.out _ _ ?_; clear hK K; refine Qbt (Qbc HT_.out (by kernel_rfl)) ?_; try go_wp2
       go_roundg k2
       case measure => have := S4.out; have := M4.out; omega
       case rel => exact ⟨(wrap64 (u0 + 1)), (Q0), (U0), (u3), (C3), fr, H', ⟨by have := S4.out; have := M4.out; omega⟩, ⟨gB n0⟩, ⟨gP o0 rfl⟩, ⟨bh HB⟩⟩
      replace H := oi3 H; obtain ⟨rfl, rfl, rfl⟩ := H; have P1 : 0 ≤ (u0 : Int) := dt; have Q1 : u0 < (l0.length : Int) := dt; obtain ⟨J2, Y2, O0, M0, N0⟩ := Qb1 Q3.out u0 P1 Q1; cases Y2; replace O0 := ce HB O0; replace M0 := ce HB M0; replace N0 := ce HB N0; replace P1 := eq_true P1; replace Q1 := eq_true Q1
      go_wp2_with (first | (refine gl_ (some 32) Tryz.func77 #[.agg #[.int .i64 ((Qal l0 u0).f1.f0), .int .i64 ((Qal l0 u0).f1.f1)]] ?_; (with_reducible refine (F4.calls ((Qal l0 u0).f1.f0) ((Qal l0 u0).f1.f1) false _ V4.out).mono ?_); rintro e I5 ⟨rfl, hb⟩; refine ⟨_, rfl, ?_⟩; replace n0 := tBb n0 hb; replace o0 := tBb o0 hb; replace HB := tHb HB hb; (try clear hb); have _ := n2 P0; have _ := bx2 n0))
      refine bodyPost_ret (Qak rfl _ _ O1 28 #[.int .i64 0, .int .i64 0] (0, 0) _ rfl (gP n0 rfl) Tryz.underlying28 rfl (by kernel_rfl)) rfl ?_; exact ⟨fe, bh HB⟩
     rw [if_neg m3] at H; have I3 := dF m3; clear m3; replace H := oi3 H; obtain ⟨rfl, rfl, rfl⟩ := H; have _ := n2 L0; have _ := bx2 o0; have _ := bx2 n0; go_wp2; refine bodyPost_ret (Qak rfl _ _ O1 28 #[.int .i64 C0, .int .i64 E0] (0, 0) _ rfl (gP n0 rfl) Tryz.underlying28 rfl (by kernel_rfl)) rfl ?_; exact ⟨fe, bh HB⟩

def Gp.f (a0_0 a0_1 a1 : Int) : Option (Int) := (Fv.f a1).bind fun n0 => ((F4.f a0_0 a0_1).bind fun o0 => (if n0 = true then (if o0 = true then (if a1 = 0 then (none) else (some (wrap64 (1 + (Int.tmod (wrap64 ((wrap64 (a0_0 * 10007)) + a0_1)) a1))))) else (some 0)) else (some 0)))
theorem Gp.calls (a0_0 a0_1 : Int) (a1 r : Int) (w : World) (h : Gp.f a0_0 a0_1 a1 = some r) :
  Calls Tryz.prog 56 #[.agg #[.int .i64 a0_0, .int .i64 a0_1], .int .i64 a1] w fun e w' => e = .returned (.int .i64 r) ∧ Below w.heap.size w w' := by
 have I0 := Tryz.underlying28; have HB := am_ (Below.refl w.heap.size w); have H := h; unfold Gp.f at H; clear h; replace H := bi H; obtain ⟨L0, A3, H⟩ := H; try dsimp only at H
 replace H := bi H; obtain ⟨A0, A4, H⟩ := H; try dsimp only at H
 replace H := ib H; obtain ⟨rfl, H⟩ | ⟨rfl, H⟩ := H
 ·
  replace H := ib H; obtain ⟨rfl, H⟩ | ⟨rfl, H⟩ := H
  ·
   by_cases c7 : a1 = 0
   ·
    rw [if_pos c7] at H; exact absurd H (by simp)
   rw [if_neg c7] at H; obtain ⟨C0, E0⟩ := ef c7; obtain rfl := Option.some.inj H; go_enter Tryz.func56, Tryz.ntmps56
   go_wp2_with (first | (refine bf_ 2 #[.int .i64 a0_0, .int .i64 a0_1] 28 HB ?_; intro u0 hg w8 hb n0 o0 HB; clear hb hg) | (refine gl_ (some 8) Tryz.func54 #[.int .i64 a1] ?_; (with_reducible refine (Fv.calls a1 true _ A3.out).mono ?_); rintro e w' ⟨rfl, ⟨nd, rfl⟩⟩; refine ⟨_, rfl, ?_⟩; have _ := bx2 n0) | (refine gl_ (some 10) Tryz.func77 #[.agg #[.int .i64 a0_0, .int .i64 a0_1]] ?_; (with_reducible refine (F4.calls a0_0 a0_1 true _ A4.out).mono ?_); rintro e Q0 ⟨rfl, hb⟩; refine ⟨_, rfl, ?_⟩; replace n0 := tBb n0 hb; replace HB := tHb HB hb; (try clear hb); have _ := bx2 n0))
   go_ret; exact ⟨fe, bh HB⟩
  obtain rfl := Option.some.inj H; go_enter Tryz.func56, Tryz.ntmps56
  go_wp2_with (first | (refine bf_ 2 #[.int .i64 a0_0, .int .i64 a0_1] 28 HB ?_; intro u0 hg O0 hb n0 o0 HB; clear hb hg) | (refine gl_ (some 8) Tryz.func54 #[.int .i64 a1] ?_; (with_reducible refine (Fv.calls a1 true _ A3.out).mono ?_); rintro e w' ⟨rfl, ⟨nd, rfl⟩⟩; refine ⟨_, rfl, ?_⟩; have _ := bx2 n0) | (refine gl_ (some 10) Tryz.func77 #[.agg #[.int .i64 a0_0, .int .i64 a0_1]] ?_; (with_reducible refine (F4.calls a0_0 a0_1 false _ A4.out).mono ?_); rintro e N0 ⟨rfl, hb⟩; refine ⟨_, rfl, ?_⟩; replace n0 := tBb n0 hb; replace HB := tHb HB hb; (try clear hb)))
  go_ret; exact ⟨fe, bh HB⟩
 obtain rfl := Option.some.inj H; go_enter Tryz.func56, Tryz.ntmps56
 go_wp2_with (first | (refine bf_ 2 #[.int .i64 a0_0, .int .i64 a0_1] 28 HB ?_; intro u0 hg M0 hb n0 o0 HB; clear hb hg) | (refine gl_ (some 8) Tryz.func54 #[.int .i64 a1] ?_; (with_reducible refine (Fv.calls a1 false _ A3.out).mono ?_); rintro e w' ⟨rfl, ⟨nd, rfl⟩⟩; refine ⟨_, rfl, ?_⟩; have _ := bx2 n0) | (refine gl_ (some 10) Tryz.func77 #[.agg #[.int .i64 a0_0, .int .i64 a0_1]] ?_; (with_reducible refine (F4.calls a0_0 a0_1 A0 _ A4.out).mono ?_); rintro e P0 ⟨rfl, hb⟩; refine ⟨_, rfl, ?_⟩; replace n0 := tBb n0 hb; replace HB := tHb HB hb; (try clear hb)))
 go_ret; exact ⟨fe, bh HB⟩
mutual
def Ff.j0 : Nat → Int → Bool → Int → Int → List (S32) → Option (Int × Int)
 | 0, _, _, _, _, _ => none
 | k + 1, x1, E0, n0, o0, u0 => if E0 = true then (some (0, 1)) else ((F6.f k n0 o0 u0 (wrap64 (3 * x1))).bind fun A0 => ((Gc.f n0).bind fun C0 => (if (A0.length : Int) < C0 then (some (0, 12)) else (Ff.l0 k A0 C0 ([] : List (S76)) 0 n0 o0 u0))))
def Ff.l0 : Nat → List (S32) → Int → List (S76) → Int → Int → Int → List (S32) → Option (Int × Int)
 | 0, _, _, _, _, _, _, _ => none
 | k + 1, x7, x8, x9, C0, n0, u0, A0 => if C0 < x8 then (if 0 ≤ C0 then (if C0 < (x7.length : Int) then (if x9.length < 5864062014805 then (Ff.l0 k x7 x8 (x9 ++ [(⟨(Qab x7 C0).f1.f0, (⟨(Qab x7 C0).f1.f4.f0, (Qab x7 C0).f1.f4.f1⟩ : S28)⟩ : S76)]) (wrap64 (C0 + 1)) n0 u0 A0) else (none)) else (none)) else (none)) else ((Fa.f k x9).bind fun o0 => (if o0.2.2 = 0 then ((Gp.f o0.1 o0.2.1 n0).bind fun E0 => (some (E0, 0))) else (some (0, o0.2.2))))
end
def Ff.f (k : Nat) (a0_0 a0_1 : Int) (l0_2 : List (S32)) (a1 : Int) : Option (Int × Int) := (Fv.f a0_0).bind fun n0 => (if a1 < 1 then (Ff.j0 k a1 true a0_0 a0_1 l0_2) else (if a1 > 1048576 then (Ff.j0 k a1 true a0_0 a0_1 l0_2) else (Ff.j0 k a1 (!n0) a0_0 a0_1 l0_2)))
def Ff.T12 : Bool × List (List Nat × List Nat) := (true, [([], []), ([], []), ([], []), ([1, 2], [1, 2]), ([3], [3]), ([4], [4]), ([5], [5]), ([], []), ([], []), ([7, 8], [7, 8]), ([9], [9]), ([10], [10]), ([11], [11]), ([6, 12], [6, 12]), ([13], [13]), ([0, 14], [0, 14]), ([15, 15, 0, 1, 2, 3, 4, 5, 6, 7, 8, 9, 10, 11, 12, 13, 14, 15], [0, 15])])
def Ff.B12 : List Nat := [0, 0, 0, 6, 14, 30, 62, 0, 0, 384, 896, 1920, 3968, 8190, 16382, 32767, 65535]
theorem Ff.tab12 : Qcp .any (opsOf Tryz.f29 12) = Ff.T12 := by kernel_rfl
theorem Ff.bits12 : Qbi Ff.T12.2 Ff.B12 = true := by kernel_rfl
theorem Ff.calls (k : Nat) (a0_0 a0_1 : Int) (A0_2 : Option Addr) (c0_2 : Nat) (l0_2 : List (S32)) (a1 r1 r2 : Int) (w : World) (hr0_2 : Kd.C k32 w A0_2 l0_2.length l0_2) (hc0_2 : l0_2.length ≤ c0_2) (h : Ff.f k a0_0 a0_1 l0_2 a1 = some (r1, r2)) :
  Calls Tryz.prog 29 #[.agg #[.int .i64 a0_0, .int .i64 a0_1, .slice A0_2 l0_2.length c0_2], .int .i64 a1] w fun e w' => e = .returned (.tuple #[.int .i64 r1, .int .i64 r2]) ∧ Below w.heap.size w w' := by
 have I7 := Tryz.underlying24; have O7 := Tryz.underlying28; have J7 := Tryz.underlying76; have Q4 := am_ hr0_2; have N4 := am_ hc0_2; clear hr0_2 hc0_2; have HB := am_ (Below.refl w.heap.size w); have H := h; unfold Ff.f at H; clear h; replace H := bi H; obtain ⟨E5, A3, H⟩ := H; try dsimp only at H
 have D6 := am_ H; clear H; go_enter Tryz.func29, Tryz.ntmps29
 go_upto_region 2 with (first | (refine bf_ 2 #[.int .i64 a0_0, .int .i64 a0_1, .slice A0_2 l0_2.length c0_2] 24 HB ?_; intro A0 hg w5 hb n0 O4 HB; clear hb hg; obtain ⟨R6, f7, O6, K6, I6, P6⟩ := bx3 n0) | (refine gl_ (some 15) Tryz.func54 #[.int .i64 a0_0] ?_; (with_reducible refine (Fv.calls a0_0 E5 _ A3.out).mono ?_); rintro e w' ⟨rfl, ⟨nd, rfl⟩⟩; refine ⟨_, rfl, ?_⟩))
 (try simp only [Act.put, List.setIfInBounds_toArray, List.set_cons_zero, List.set_cons_succ])
 go_cut [25] (fun K7 wc => ∃ (kq : Nat) (u4 : Bool), K7 = .bool u4 ∧ Asc (Ff.j0 kq a1 u4 a0_0 a0_1 l0_2 = some (r1, r2)) ∧ Asc (kq ≤ k) ∧ Asc (wc.heap[A0]? = some (.cells #[.int .i64 a0_0, .int .i64 a0_1, (.slice A0_2 l0_2.length c0_2)] 24 (0, 0))) ∧ Asc (Below w.heap.size w wc))
 case first =>
  have H := D6.out; clear D6
  by_cases c7 : a1 < 1
  ·
   rw [if_pos c7] at H; have s4 := dT c7; clear c7
   (first | rw [s4] | (simp only [Qay, Qa3]; rw [s4]) | skip)
   have H' := am_ H; clear H; go_wp2
   go_meet
   case rel => exact ⟨_, (true), fr, H', ⟨by first | omega | exact Nat.le_refl _⟩, ⟨gB n0⟩, ⟨bh HB⟩⟩
  rw [if_neg c7] at H; have s4 := dF c7; clear c7
  (first | rw [s4] | (simp only [Qay, Qa3]; rw [s4]) | skip)
  by_cases c8 : a1 > 1048576
  ·
   rw [if_pos c8] at H; have Y6 : decide (1048576 < a1) = true := dT c8; clear c8; have H' := am_ H; clear H; go_wp2
   go_meet
   case rel => exact ⟨_, (true), fr, H', ⟨by first | omega | exact Nat.le_refl _⟩, ⟨gB n0⟩, ⟨bh HB⟩⟩
  rw [if_neg c8] at H; have Y6 : decide (1048576 < a1) = false := dF c8; clear c8; have H' := am_ H; clear H; go_wp2
  go_meet
  case rel => exact ⟨_, (!E5), fr, H', ⟨by first | omega | exact Nat.le_refl _⟩, ⟨gB n0⟩, ⟨bh HB⟩⟩
 case rest =>
  clear D6; try clear R6 f7 O6 K6 I6 P6
  obtain ⟨kq, u4, rfl, HA, t7, n0, HB⟩ := hcut
  cases kq with
  | zero => exact absurd HA.out (by simp [Ff.j0])
  | succ Z5 =>
   have H := HA.out; clear HA; simp only [Ff.j0] at H; replace H := ib H; obtain ⟨rfl, H⟩ | ⟨rfl, H⟩ := H
   ·
    replace H := oi2 H; obtain ⟨rfl, rfl⟩ := H; go_wp2; go_ret2; exact ⟨fe, bh HB⟩
   replace H := bi H; obtain ⟨u0, s7, H⟩ := H; try dsimp only at H
   replace H := bi H; obtain ⟨Y3, j7, H⟩ := H; try dsimp only at H
   by_cases Y4 : (u0.length : Int) < Y3
   ·
    rw [if_pos Y4] at H; have P4 := dT Y4; clear Y4; replace H := oi2 H; obtain ⟨rfl, rfl⟩ := H; have _ := bx3 n0
    go_wp2_with (first | (refine gl_ (some 29) Tryz.func36 #[.agg #[.int .i64 a0_0, .int .i64 a0_1, .slice A0_2 l0_2.length c0_2], .int .i64 (wrap64 (3 * a1))] ?_; (with_reducible refine (F6.calls Z5 a0_0 a0_1 (fun k_ => k_ < w.heap.size) _ _ l0_2 (wrap64 (3 * a1)) u0 _ ?U0 s7.out).mono ?_); (case U0 => exact Kd.V_mk N4.out (Kd.F_below (Kd.C_F Qbn Q4.out) (bh HB))); rintro e U7 ⟨C6, rfl, i5, hb⟩; refine ⟨_, rfl, ?_⟩; have N2 := am_ (Kd.N_lower (Kd.N_mono (ok' := fun k_ => k_ ≠ A0) i5 (fun k_ hk_ => oe O4 n0 hk_)) (Qac (bh HB))); replace n0 := tBb n0 hb; replace HB := tHb HB hb; (try clear hb i5); have _ := bx3 n0) | (refine gl_ (some 32) Tryz.func32 #[.int .i64 a0_0] ?_; (with_reducible refine (Gc.calls a0_0 Y3 _ j7.out).mono ?_); rintro e w' ⟨rfl, ⟨nd, rfl⟩⟩; refine ⟨_, rfl, ?_⟩; obtain ⟨M7, A7, N6⟩ := Kd.N_slice N2.out; subst N6))
    go_ret2; exact ⟨fe, bh HB⟩
   rw [if_neg Y4] at H; have P4 := dF Y4; clear Y4; have H' := am_ H; clear H; obtain ⟨N5, M5, k5, s5, Q5, A5⟩ := bx3 n0
   go_wp2_with (first | (refine gl_ (some 29) Tryz.func36 #[.agg #[.int .i64 a0_0, .int .i64 a0_1, .slice A0_2 l0_2.length c0_2], .int .i64 (wrap64 (3 * a1))] ?_; (with_reducible refine (F6.calls Z5 a0_0 a0_1 (fun k_ => k_ < w.heap.size) _ _ l0_2 (wrap64 (3 * a1)) u0 _ ?U0 s7.out).mono ?_); (case U0 => exact Kd.V_mk N4.out (Kd.F_below (Kd.C_F Qbn Q4.out) (bh HB))); rintro e S7 ⟨C6, rfl, i5, hb⟩; refine ⟨_, rfl, ?_⟩; have N2 := am_ (Kd.N_lower (Kd.N_mono (ok' := fun k_ => k_ ≠ A0) i5 (fun k_ hk_ => oe O4 n0 hk_)) (Qac (bh HB))); replace n0 := tBb n0 hb; replace HB := tHb HB hb; (try clear hb i5); obtain ⟨O5, l5, P5, Z4, C5, I5⟩ := bx3 n0) | (refine gl_ (some 32) Tryz.func32 #[.int .i64 a0_0] ?_; (with_reducible refine (Gc.calls a0_0 Y3 _ j7.out).mono ?_); rintro e w' ⟨rfl, ⟨nd, rfl⟩⟩; refine ⟨_, rfl, ?_⟩; obtain ⟨s6, k4, i7⟩ := Kd.N_slice N2.out; subst i7))
   go_loopg [9, 10] Z5 (fun kq v9 N7 w' => ∃ (Q1 : List (S76)) (o0 : Int), N7 = .int .i64 o0 ∧ Asc (Ff.l0 kq u0 Y3 Q1 o0 a0_0 a0_1 l0_2 = some (r1, r2)) ∧ Asc (kq ≤ Z5) ∧ Asc (Kd.N k32 32 w' w.heap.size (fun k_ => some k_ ≠ (v9 : Value).ownBlock ∧ k_ ≠ A0) (.slice s6 u0.length k4) u0) ∧ Asc (Kd.R k76 76 w' w.heap.size (fun _ => True) v9 Q1) ∧ Asc (w'.heap[A0]? = some (.cells #[.int .i64 a0_0, .int .i64 a0_1, (.slice A0_2 l0_2.length c0_2)] 24 (0, 0))) ∧ Asc (Below w.heap.size w w'))
   case atStart => exact ⟨(([] : List (S76))), (0), fr, H', ⟨Nat.le_refl _⟩, ⟨gN N2⟩, ⟨kn⟩, ⟨gB n0⟩, ⟨bh HB⟩⟩
   case round =>
    clear H'; try clear c9 P4 N5 M5 k5 O5 l5 P5 s5 Q5 A5 Z4 C5 I5
    obtain ⟨Q1, o0, rfl, HA, o7, HO_7, HO_9, n0, HB⟩ := hrel
    cases gk with
    | zero => exact absurd HA.out (by simp [Ff.l0])
    | succ k2 =>
     have H := HA.out; clear HA; simp only [Ff.l0] at H
     by_cases X4 : o0 < Y3
     ·
      rw [if_pos X4] at H; have c5 := dT X4; clear X4; revert H; refine gi (fun z7 H => ?_); revert H; refine gi (fun w7 H => ?_); revert H; refine gi' (fun m7 H => ?_); have U5 := am_ m7; clear m7; obtain ⟨S5, Y1⟩ : ∃ y_ : List (S76), y_ = (Q1 ++ [(⟨(Qab u0 o0).f1.f0, (⟨(Qab u0 o0).f1.f4.f0, (Qab u0 o0).f1.f4.f1⟩ : S28)⟩ : S76)]) := ⟨_, rfl⟩; replace H : (Ff.l0 k2 u0 Y3 S5 (wrap64 (o0 + 1)) a0_0 a0_1 l0_2) = some (r1, r2) := by first | (rw [Y1]; with_reducible exact H) | (have H := (Option.bind_some _ _).symm.trans H; first | (rw [Y1]; with_reducible exact H) | with_reducible exact H) | with_reducible exact H | (rw [Y1]; exact H) | exact H
      have p5 := am_ Y1; clear Y1; have H' := am_ H; clear H; try go_wp2
      replace HO_7 := am_ (Kd.N_drew HO_7.out); replace HO_9 := am_ (Kd.R_drew HO_9.out); replace n0 := am_ (Qag n0.out); replace HB := am_ (Qaj HB.out); have L4 : 0 ≤ (o0 : Int) := dt; have D4 : o0 < (u0.length : Int) := dt; obtain ⟨Z1, Q6, g7, A6, Z6, U6, Q3, u3, L3, E0, L0, C3, k3, L2, Q2, S3, I3⟩ := Qao (Kd.N_reads' HO_7.out).2.2 o0 L4 D4; cases U6; obtain ⟨p7, V4, U4, C2⟩ := Kd.N_get HO_7.out z32 o0 L4 (by first | exact D4 | exact dt | (have e_ := (Kd.N_reads' HO_7.out).1; omega)); obtain ⟨i6, o6, k6, W5, rfl, O1, Y0, C1, U1⟩ := Qap U4; have M0 := C2 3 _ rfl; rw [Qaf _ _ 3 (by omega)] at M0; replace M0 := Option.some.inj (M0.symm.trans E0)
      injection M0 with hva_ hvn_ hvc_
      rw [hva_] at Y0; rw [hvc_] at O1; have Z0 := am_ (show Kd.V Qbm 107 _ w.heap.size _ _ ((Qab u0 o0).f1.f2) from Kd.V_mk O1 Y0); clear hva_ hvn_ hvc_ Y0 O1; have O0 := C2 4 _ rfl; rw [Qaf _ _ 4 (by omega)] at O0; replace O0 := Option.some.inj (O0.symm.trans L0)
      injection O0 with hva_ hvn_ hvc_
      rw [hva_] at U1; rw [hvc_] at C1; have X0 := am_ (show Kd.V Kd.string 9 _ w.heap.size _ _ ((Qab u0 o0).f1.f3) from Kd.V_mk C1 U1); clear hva_ hvn_ hvc_ U1 C1 C2 V4; have M4 := am_ Q2; have X5 := am_ L2; clear Q2 L2; have E4 := am_ I3; have m6 := am_ S3; clear I3 S3; replace L4 := eq_true L4; replace D4 := eq_true D4; have I4 : 0 ≤ (o0 : Int) := dt; have C4 : o0 < (u0.length : Int) := dt; obtain ⟨R5, X6, E6, z6, M6, V6, V2, m3, J3, I0, Q0, s3, Y2, U3, N3, Z2, J2⟩ := Qao (Kd.N_reads' HO_7.out).2.2 o0 I4 C4; obtain rfl : Z1 = R5 := (by injection V6); obtain ⟨k7, R4, S4, D2⟩ := Kd.N_get HO_7.out z32 o0 I4 (by first | exact C4 | exact dt | (have e_ := (Kd.N_reads' HO_7.out).1; omega)); obtain ⟨c6, l6, p6, V5, rfl, L1, P1, V1, X1⟩ := Qap S4; have N0 := D2 3 _ rfl; rw [Qaf _ _ 3 (by omega)] at N0; replace N0 := Option.some.inj (N0.symm.trans I0)
      injection N0 with hva_ hvn_ hvc_
      rw [hva_] at P1; rw [hvc_] at L1; have D1 := am_ (show Kd.V Qbm 107 _ w.heap.size _ _ ((Qab u0 o0).f1.f2) from Kd.V_mk L1 P1); clear hva_ hvn_ hvc_ P1 L1; have P0 := D2 4 _ rfl; rw [Qaf _ _ 4 (by omega)] at P0; replace P0 := Option.some.inj (P0.symm.trans Q0)
      injection P0 with hva_ hvn_ hvc_
      rw [hva_] at X1; rw [hvc_] at V1; have N1 := am_ (show Kd.V Kd.string 9 _ w.heap.size _ _ ((Qab u0 o0).f1.f3) from Kd.V_mk V1 X1); clear hva_ hvn_ hvc_ X1 V1 D2 R4; have K4 := am_ N3; have Y5 := am_ U3; clear N3 U3; have J4 := am_ J2; have j6 := am_ Z2; clear J2 Z2; replace I4 := eq_true I4; replace C4 := eq_true C4; have ea_ := Option.some.inj (E0.symm.trans I0)
      injection ea_ with ea_ en_ ec_
      subst ea_; subst ec_; clear en_; have ea_ := Option.some.inj (L0.symm.trans Q0)
      injection ea_ with ea_ en_ ec_
      subst ea_; subst ec_; clear en_; refine st_ 17 [14, 15] (c1_ Q3 (c1_ u3 (c1_ L3 (c1_ E0 (c1_ L0 (c1_ C3 (c1_ k3 (c1_ V2 (c1_ m3 (c1_ J3 (c1_ I0 (c1_ Q0 (c1_ s3 (c1_ Y2 ct)))))))))))))) (fun hHeld => ?_); refine Qav Ff.tab12 Ff.bits12 (fun HT_ HW_ => ?_); generalize wr.drew = Y7 at HO_7 HO_9 n0 HB Z0 X0 D1 N1 M4 E4 K4 J4 Q3 u3 L3 E0 L0 C3 k3 V2 m3 J3 I0 Q0 s3 Y2 hHeld ⊢; refine pu_ 0 (some 42) 1 HT_ (h := ?_); refine pu_ 1 (some 43) 3 HT_ (h := ?_); refine pu_ 2 (some 44) 7 HT_ (h := ?_); refine pu_ 3 (some 45) 15 HT_ (h := ?_); refine pu_ 4 (some 46) 31 HT_ (h := ?_); refine pu_ 5 (some 47) 63 HT_ (h := ?_); refine pu_ 7 (some 49) 191 HT_ (h := ?_); refine pu_ 8 (some 50) 447 HT_ (h := ?_); refine pu_ 9 (some 51) 959 HT_ (h := ?_); refine pu_ 10 (some 52) 1983 HT_ (h := ?_); refine pu_ 11 (some 53) 4031 HT_ (h := ?_); refine tk_ 6 (some 48) 4095 HT_ HW_ hHeld (h := ?_); refine tk_ 12 (some 54) 8191 HT_ HW_ hHeld (h := ?_); refine pu_ 13 (some 55) 16383 HT_ (h := ?_); refine Qe2 (i := 14) (N := some 56) #[true, true, true, true, true, true, true, true, true, true, true, true, true, true, true, false, false] rfl rfl (Qe0 HT_.out (by kernel_rfl)) (by decide) (fun K hK => ?_); refine Qj1 (w1 := ?_) (v := ?_) (by rfl) rfl ?_ ?_; rotate_left 2
      ·
       go_simp; constructor
       ·
        rfl
       rfl
      refine hK.out _ _ ?_; clear hK K; refine Qbb (a' := ?_) ?_ ?_; rotate_left
      ·
       show Act.put _ (some 56) _ = _; exact pt_
      refine Qe2 (i := 15) (N := some 57) #[true, true, true, true, true, true, true, true, true, true, true, true, true, true, true, true, false] rfl rfl (Qe0 HT_.out (by kernel_rfl)) (by decide) (fun K hK => ?_); refine Kd.R_append_step k76 (w0 := w) w.heap.size (by rfl) (.tmp 42) (.tmp 56) 74 76 (.agg #[(.int .i64 0), (.int .i64 0), (.int .i64 0)]) 24 rfl Tryz.underlying74 Qpz rfl (by decide) (by omega) u9 Q1 (⟨(Qab u0 o0).f1.f0, (⟨(Qab u0 o0).f1.f4.f0, (Qab u0 o0).f1.f4.f1⟩ : S28)⟩ : S76) [.int .i64 ((Qab u0 o0).f1.f0), .int .i64 ((Qab u0 o0).f1.f4.f0), .int .i64 ((Qab u0 o0).f1.f4.f1)] (fun _ => True) (fun _ => False) rfl rfl ?aP (fun _ hk => hk.elim) ?aF ?aO ?aB ?aS ?aL ?_
      (case aP => exact Qno _ _ _ (⟨(Qab u0 o0).f1.f0, (⟨(Qab u0 o0).f1.f4.f0, (Qab u0 o0).f1.f4.f1⟩ : S28)⟩ : S76))
      (case aB => exact (bh HB))
      (case aF => exact (fun _ _ => trivial))
      (case aO => exact (hR HO_9))
      (case aS => exact (Qac (bh HB)))
      (case aL => have := U5.out; omega)
      intro D7 V7 ho hb hg hat
      rw [← p5.out] at ho; replace HO_7 := am_ (Kd.N_afterv (ok := (fun k_ => k_ ≠ A0)) (gN HO_7) hg hat); replace n0 := tBg n0 hg (Kd.R_ne HO_9.out n0.out (by decide)); replace Z0 := am_ (Kd.V_afterv (ok := (fun k_ => some k_ ≠ (.slice (some Z1) u0.length k4 : Value).ownBlock ∧ k_ ≠ A0)) (gV Z0) hg hat); replace X0 := am_ (Kd.V_afterv (ok := (fun k_ => some k_ ≠ (.slice (some Z1) u0.length k4 : Value).ownBlock ∧ k_ ≠ A0)) (gV X0) hg hat); replace D1 := am_ (Kd.V_afterv (ok := (fun k_ => some k_ ≠ (.slice (some Z1) u0.length k4 : Value).ownBlock ∧ k_ ≠ A0)) (gV D1) hg hat); replace N1 := am_ (Kd.V_afterv (ok := (fun k_ => some k_ ≠ (.slice (some Z1) u0.length k4 : Value).ownBlock ∧ k_ ≠ A0)) (gV N1) hg hat); replace HB := am_ hb; have m5 := am_ (ho); clear HO_9 ho hb hg hat
      refine hK.out _ _ ?_; clear hK K; refine Qbb (a' := ?_) ?_ ?_; rotate_left
      ·
       show Act.put _ (some 57) _ = _; exact pt_
      refine pu_ 16 (some 9) 131071 HT_ (h := ?_); refine Qbt (Qbc HT_.out (by kernel_rfl)) ?_; try go_wp2
      go_roundg k2
      case measure => have := t7.out; have := o7.out; omega
      case rel => exact ⟨(S5), (wrap64 (o0 + 1)), fr, H', ⟨by have := t7.out; have := o7.out; omega⟩, ⟨gN HO_7⟩, ⟨hR m5⟩, ⟨gB n0⟩, ⟨bh HB⟩⟩
     rw [if_neg X4] at H; have c5 := dF X4; clear X4; replace H := bi H; obtain ⟨⟨X3, V3, W4⟩, l7, H⟩ := H; try dsimp only at H
     by_cases D5 : W4 = 0
     ·
      rw [if_pos D5] at H; obtain ⟨K5, L5⟩ := et D5; clear D5; replace H := bi H; obtain ⟨J6, C7, H⟩ := H; try dsimp only at H
      replace H := oi2 H; obtain ⟨rfl, rfl⟩ := H; obtain ⟨L6, r6, q6⟩ := Kd.R_slice HO_9.out; subst q6
      go_wp2_with (first | (refine gl_ (some 60) Tryz.func55 #[.slice L6 Q1.length r6] ?_; (with_reducible refine (Fa.calls k2 _ _ Q1 X3 V3 W4 _ ?U0 ?m4 l7.out).mono ?_); (case U0 => repeat (first | exact (Kd.R_reads' HO_9.out).2.2 | (with_reducible refine Kd.C_alloc ?_ _) | (with_reducible refine Kd.C_drewN ?_ _) | (with_reducible refine Kd.C_drew ?_))); (case m4 => exact (Kd.R_reads' HO_9.out).2.1); rintro e Q7 ⟨rfl, hb⟩; refine ⟨_, rfl, ?_⟩; replace HO_7 := tNb HO_7 hb; replace HO_9 := tRb HO_9 hb; replace n0 := tBb n0 hb; replace HB := tHb HB hb; (try clear hb)) | (refine bf_ 11 #[.int .i64 0, .int .i64 0] 28 HB ?_; intro D3 hg Z7 hb V0 J5 HB; replace HO_7 := tNe HO_7 hg hb; replace HO_9 := tRb HO_9 hb; obtain ⟨Z3, C0⟩ := tN n0 hg; replace n0 := tBb n0 hb; clear hb hg; have _ := n2 C0; have _ := bx2 V0; have _ := bx3 n0) | (refine gl_ (some 69) Tryz.func56 #[.agg #[.int .i64 X3, .int .i64 V3], .int .i64 a0_0] ?_; (with_reducible refine (Gp.calls X3 V3 a0_0 J6 _ C7.out).mono ?_); rintro e W7 ⟨rfl, hb⟩; refine ⟨_, rfl, ?_⟩; replace HO_7 := tNb HO_7 hb; replace HO_9 := am_ (Kd.R_below (by (with_reducible repeat (first | apply Kd.R_alloc | apply Kd.R_drewN | apply Kd.R_drew)); exact (Kd.R_mono (Kd.R_far (p := ⟨D3, 1, none⟩) (Kd.R_far (p := ⟨D3, 0, none⟩) (Kd.R_types HO_9.out V0.out (by decide)) (fun _ hk => hk.2) (.int .i64 X3)) (fun _ hk => hk.2) (.int .i64 V3)) (fun _ h_ => h_.1))) hb); replace n0 := tBb n0 hb; replace V0 := am_ (Qam (g := D3) (o := .cells #[.int .i64 X3, .int .i64 V3] 28 (0, 0)) (gP V0 rfl) hb); replace HB := tHb HB hb; (try clear hb)))
      go_ret2; exact ⟨fe, bh HB⟩
     rw [if_neg D5] at H; obtain ⟨K5, L5⟩ := ef D5; replace H := oi2 H; obtain ⟨rfl, rfl⟩ := H; obtain ⟨d7, W6, S6⟩ := Kd.R_slice HO_9.out; subst S6
     go_wp2_with (first | (refine gl_ (some 60) Tryz.func55 #[.slice d7 Q1.length W6] ?_; (with_reducible refine (Fa.calls k2 _ _ Q1 X3 V3 W4 _ ?U0 ?m4 l7.out).mono ?_); (case U0 => repeat (first | exact (Kd.R_reads' HO_9.out).2.2 | (with_reducible refine Kd.C_alloc ?_ _) | (with_reducible refine Kd.C_drewN ?_ _) | (with_reducible refine Kd.C_drew ?_))); (case m4 => exact (Kd.R_reads' HO_9.out).2.1); rintro e R7 ⟨rfl, hb⟩; refine ⟨_, rfl, ?_⟩; replace HO_7 := tNb HO_7 hb; replace HO_9 := tRb HO_9 hb; replace n0 := tBb n0 hb; replace HB := tHb HB hb; (try clear hb)) | (refine bf_ 11 #[.int .i64 0, .int .i64 0] 28 HB ?_; intro D3 hg P7 hb V0 J5 HB; replace HO_7 := tNe HO_7 hg hb; replace HO_9 := tRb HO_9 hb; obtain ⟨Z3, C0⟩ := tN n0 hg; replace n0 := tBb n0 hb; clear hb hg; have _ := n2 C0; have _ := bx2 V0))
     go_ret2; exact ⟨fe, bh HB⟩

def Gg.f (k : Nat) (a0_0 a0_1 : Int) (l0_2 : List (S32)) (a1 : Int) : Option (ByteArray × Int × Int × (List (Qaz)) × List ByteArray × Int × Int × Int) := (Ff.f k a0_0 a0_1 l0_2 a1).bind fun o0 => (if o0.2 = 0 then ((Fd.f k a0_0 a0_1 l0_2 o0.1 (wrap64 ((wrap64 (3 * a1)) - 2))).bind fun n0 => (if n0.2.2.2.2.2.2.2 = true then (some (n0.1, n0.2.1, n0.2.2.1, n0.2.2.2.1, n0.2.2.2.2.1, n0.2.2.2.2.2.1, n0.2.2.2.2.2.2.1, 0)) else (some ((⟨#[]⟩ : ByteArray), 0, 0, ([] : List (Qaz)), ([] : List ByteArray), 0, 0, 7)))) else (some ((⟨#[]⟩ : ByteArray), 0, 0, ([] : List (Qaz)), ([] : List ByteArray), 0, 0, o0.2)))
theorem Gg.calls (k : Nat) (a0_0 a0_1 : Int) (E0 : Nat → Prop) (A0_2 : Option Addr) (c0_2 : Nat) (l0_2 : List (S32)) (a1 : Int) (r1 : ByteArray) (r2 r3 : Int) (r4 : List (Qaz)) (r5 : List ByteArray) (r6 r7 r8 : Int) (w : World) (D2 : Kd.V k32 32 w w.heap.size (fun k_ => E0 k_) (.slice A0_2 l0_2.length c0_2) l0_2) (h : Gg.f k a0_0 a0_1 l0_2 a1 = some (r1, r2, r3, r4, r5, r6, r7, r8)) :
  Calls Tryz.prog 10 #[.agg #[.int .i64 a0_0, .int .i64 a0_1, .slice A0_2 l0_2.length c0_2], .int .i64 a1] w fun e w' => ∃ C3 J3 : Value, e = .returned (.tuple #[.agg #[.string r1, .int .i64 r2, .int .i64 r3, C3, J3, .int .i64 r6, .int .i64 r7], .int .i64 r8]) ∧ Kd.V Qbm 107 w' w.heap.size (fun k_ => (E0 k_ ∨ w.heap.size ≤ k_)) C3 r4 ∧ Kd.V Kd.string 9 w' w.heap.size (fun k_ => (E0 k_ ∨ w.heap.size ≤ k_)) J3 r5 ∧ Below w.heap.size w w' := by
 have X3 := Tryz.underlying24; have S3 := Tryz.underlying32; have n0 := am_ (show Kd.V k32 32 w w.heap.size (fun k_ => (E0 k_ ∨ w.heap.size ≤ k_)) (.slice A0_2 l0_2.length c0_2) l0_2 from Kd.V_mono D2 (fun k_ hk => .inl hk)); have HB := am_ (Below.refl w.heap.size w); have H := h; unfold Gg.f at H; clear h; replace H := bi H; obtain ⟨⟨V0, C1⟩, A3, H⟩ := H; try dsimp only at H
 by_cases c4 : C1 = 0
 ·
  rw [if_pos c4] at H; obtain ⟨L2, N2⟩ := et c4; clear c4; replace H := bi H; obtain ⟨⟨Q1, P1, U1, X1, V1, O1, N1, Y3⟩, A5, H⟩ := H; try dsimp only at H
  replace H := ib H; obtain ⟨rfl, H⟩ | ⟨rfl, H⟩ := H
  ·
   replace H := oi8 H; obtain ⟨rfl, rfl, rfl, rfl, rfl, rfl, rfl, rfl⟩ := H; go_enter Tryz.func10, Tryz.ntmps10
   go_wp2_with (first | (refine bf_ 2 #[.int .i64 a0_0, .int .i64 a0_1, .slice A0_2 l0_2.length c0_2] 24 HB ?_; intro N0 hg w7 hb o0 L1 HB; replace n0 := tVe n0 hg hb; clear hb hg) | (refine bf_ 4 #[.string (⟨#[]⟩ : ByteArray), .int .i64 0, .int .i64 0, .slice none 0 0, .slice none 0 0, .int .i64 0, .int .i64 0] 32 HB ?_; intro C0 hg w8 hb u0 D1 HB; replace n0 := tVe n0 hg hb; obtain ⟨A0, Q0⟩ := tN o0 hg; replace o0 := tBb o0 hb; clear hb hg; have _ := n2 A0; have _ := bx3 o0) | (refine gl_ (some 13) Tryz.func29 #[.agg #[.int .i64 a0_0, .int .i64 a0_1, .slice A0_2 l0_2.length c0_2], .int .i64 a1] ?_; (with_reducible refine (Ff.calls k a0_0 a0_1 _ _ l0_2 a1 V0 C1 _ ?I0 ?U0 A3.out).mono ?_); (case I0 => exact vC n0); (case U0 => exact vL n0); rintro e K4 ⟨rfl, hb⟩; refine ⟨_, rfl, ?_⟩; replace n0 := tVb n0 hb; replace o0 := tBb o0 hb; replace u0 := tBb u0 hb; replace HB := tHb HB hb; (try clear hb); have _ := bx3 o0) | (refine gl_ (some 26) Tryz.func30 #[.agg #[.int .i64 a0_0, .int .i64 a0_1, .slice A0_2 l0_2.length c0_2], .int .i64 V0, .int .i64 (wrap64 ((wrap64 (3 * a1)) - 2))] ?_; (with_reducible refine (Fd.calls k a0_0 a0_1 (fun k_ => (((E0 k_ ∨ w.heap.size ≤ k_) ∧ k_ ≠ N0) ∧ k_ ≠ C0)) _ _ l0_2 V0 (wrap64 ((wrap64 (3 * a1)) - 2)) Q1 P1 U1 X1 V1 O1 N1 true _ ?I0 A5.out).mono ?_); (case I0 => exact n0.out); rintro e J4 ⟨m3, Y2, rfl, J2, Y1, hb⟩; refine ⟨_, rfl, ?_⟩; replace n0 := tVb n0 hb; have P0 := lq (fun k_ => (E0 k_ ∨ w.heap.size ≤ k_) ∧ k_ ≠ N0 ∧ k_ ≠ C0) J2 HB; have O0 := lq (fun k_ => (E0 k_ ∨ w.heap.size ≤ k_) ∧ k_ ≠ N0 ∧ k_ ≠ C0) Y1 HB; replace o0 := tBb o0 hb; replace u0 := tBb u0 hb; replace HB := tHb HB hb; (try clear hb J2 Y1)) | (refine bf_ 8 #[.string (⟨#[]⟩ : ByteArray), .int .i64 0, .int .i64 0, .slice none 0 0, .slice none 0 0, .int .i64 0, .int .i64 0] 32 HB ?_; intro C2 hg I4 hb Z0 Z1 HB; replace n0 := tVe n0 hg hb; replace P0 := tVe P0 hg hb; replace O0 := tVe O0 hg hb; obtain ⟨Y0, M0⟩ := tN o0 hg; replace o0 := tBb o0 hb; obtain ⟨X0, L0⟩ := tN u0 hg; replace u0 := tBb u0 hb; clear hb hg; have _ := n2 M0; have _ := n2 L0; obtain ⟨L3, I3, D3, _, _, _, _, N3, u3, s3, _, _, _, _⟩ := bx7 Z0; obtain ⟨k3, Q2, rfl⟩ := Kd.V_slice P0.out; obtain ⟨V2, Z2, rfl⟩ := Kd.V_slice O0.out; have _ := bx7 u0))
   refine bodyPost_ret (Qak rfl _ _ C0 32 #[.string Q1, .int .i64 P1, .int .i64 U1, .slice k3 X1.length Q2, .slice V2 V1.length Z2, .int .i64 O1, .int .i64 N1] (0, 0) _ rfl (gP u0 rfl) Tryz.underlying32 rfl (by kernel_rfl)) rfl ?_; exact ⟨_, _, fe, gV P0, gV O0, bh HB⟩
  replace H := oi8 H; obtain ⟨rfl, rfl, rfl, rfl, rfl, rfl, rfl, rfl⟩ := H; go_enter Tryz.func10, Tryz.ntmps10
  go_wp2_with (first | (refine bf_ 2 #[.int .i64 a0_0, .int .i64 a0_1, .slice A0_2 l0_2.length c0_2] 24 HB ?_; intro N0 hg s4 hb o0 L1 HB; replace n0 := tVe n0 hg hb; clear hb hg) | (refine bf_ 4 #[.string (⟨#[]⟩ : ByteArray), .int .i64 0, .int .i64 0, .slice none 0 0, .slice none 0 0, .int .i64 0, .int .i64 0] 32 HB ?_; intro C0 hg L4 hb u0 D1 HB; replace n0 := tVe n0 hg hb; obtain ⟨A0, Q0⟩ := tN o0 hg; replace o0 := tBb o0 hb; clear hb hg; have _ := n2 A0; have _ := bx3 o0) | (refine gl_ (some 13) Tryz.func29 #[.agg #[.int .i64 a0_0, .int .i64 a0_1, .slice A0_2 l0_2.length c0_2], .int .i64 a1] ?_; (with_reducible refine (Ff.calls k a0_0 a0_1 _ _ l0_2 a1 V0 C1 _ ?I0 ?U0 A3.out).mono ?_); (case I0 => exact vC n0); (case U0 => exact vL n0); rintro e u4 ⟨rfl, hb⟩; refine ⟨_, rfl, ?_⟩; replace n0 := tVb n0 hb; replace o0 := tBb o0 hb; replace u0 := tBb u0 hb; replace HB := tHb HB hb; (try clear hb); have _ := bx3 o0) | (refine gl_ (some 26) Tryz.func30 #[.agg #[.int .i64 a0_0, .int .i64 a0_1, .slice A0_2 l0_2.length c0_2], .int .i64 V0, .int .i64 (wrap64 ((wrap64 (3 * a1)) - 2))] ?_; (with_reducible refine (Fd.calls k a0_0 a0_1 (fun k_ => (((E0 k_ ∨ w.heap.size ≤ k_) ∧ k_ ≠ N0) ∧ k_ ≠ C0)) _ _ l0_2 V0 (wrap64 ((wrap64 (3 * a1)) - 2)) Q1 P1 U1 X1 V1 O1 N1 false _ ?I0 A5.out).mono ?_); (case I0 => exact n0.out); rintro e C4 ⟨m3, Y2, rfl, J2, Y1, hb⟩; refine ⟨_, rfl, ?_⟩; replace n0 := tVb n0 hb; have P0 := lq (fun k_ => (E0 k_ ∨ w.heap.size ≤ k_) ∧ k_ ≠ N0 ∧ k_ ≠ C0) J2 HB; have O0 := lq (fun k_ => (E0 k_ ∨ w.heap.size ≤ k_) ∧ k_ ≠ N0 ∧ k_ ≠ C0) Y1 HB; replace o0 := tBb o0 hb; replace u0 := tBb u0 hb; replace HB := tHb HB hb; (try clear hb J2 Y1)) | (refine bf_ 8 #[.string (⟨#[]⟩ : ByteArray), .int .i64 0, .int .i64 0, .slice none 0 0, .slice none 0 0, .int .i64 0, .int .i64 0] 32 HB ?_; intro C2 hg E4 hb Z0 Z1 HB; replace n0 := tVe n0 hg hb; replace P0 := tVe P0 hg hb; replace O0 := tVe O0 hg hb; obtain ⟨Y0, M0⟩ := tN o0 hg; replace o0 := tBb o0 hb; obtain ⟨X0, L0⟩ := tN u0 hg; replace u0 := tBb u0 hb; clear hb hg; have _ := n2 M0; have _ := n2 L0; have _ := bx7 Z0; obtain ⟨Z3, U3, rfl⟩ := Kd.V_slice P0.out; obtain ⟨Q3, V3, rfl⟩ := Kd.V_slice O0.out; have _ := bx7 u0))
  refine bodyPost_ret (Qak rfl _ _ C0 32 #[.string (⟨#[]⟩ : ByteArray), .int .i64 0, .int .i64 0, .slice none 0 0, .slice none 0 0, .int .i64 0, .int .i64 0] (0, 0) _ rfl (gP u0 rfl) Tryz.underlying32 rfl (by kernel_rfl)) rfl ?_; exact ⟨_, _, fe, Kd.V_nil _ _ _ _ _, Kd.V_nil _ _ _ _ _, bh HB⟩
 rw [if_neg c4] at H; obtain ⟨L2, N2⟩ := ef c4; replace H := oi8 H; obtain ⟨rfl, rfl, rfl, rfl, rfl, rfl, rfl, rfl⟩ := H; go_enter Tryz.func10, Tryz.ntmps10
 go_wp2_with (first | (refine bf_ 2 #[.int .i64 a0_0, .int .i64 a0_1, .slice A0_2 l0_2.length c0_2] 24 HB ?_; intro N0 hg D4 hb o0 L1 HB; replace n0 := tVe n0 hg hb; clear hb hg) | (refine bf_ 4 #[.string (⟨#[]⟩ : ByteArray), .int .i64 0, .int .i64 0, .slice none 0 0, .slice none 0 0, .int .i64 0, .int .i64 0] 32 HB ?_; intro C0 hg m4 hb u0 D1 HB; replace n0 := tVe n0 hg hb; obtain ⟨A0, Q0⟩ := tN o0 hg; replace o0 := tBb o0 hb; clear hb hg; have _ := n2 A0; have _ := bx3 o0) | (refine gl_ (some 13) Tryz.func29 #[.agg #[.int .i64 a0_0, .int .i64 a0_1, .slice A0_2 l0_2.length c0_2], .int .i64 a1] ?_; (with_reducible refine (Ff.calls k a0_0 a0_1 _ _ l0_2 a1 V0 C1 _ ?I0 ?U0 A3.out).mono ?_); (case I0 => exact vC n0); (case U0 => exact vL n0); rintro e k4 ⟨rfl, hb⟩; refine ⟨_, rfl, ?_⟩; replace n0 := tVb n0 hb; replace o0 := tBb o0 hb; replace u0 := tBb u0 hb; replace HB := tHb HB hb; (try clear hb); have _ := bx7 u0))
 refine bodyPost_ret (Qak rfl _ _ C0 32 #[.string (⟨#[]⟩ : ByteArray), .int .i64 0, .int .i64 0, .slice none 0 0, .slice none 0 0, .int .i64 0, .int .i64 0] (0, 0) _ rfl (gP u0 rfl) Tryz.underlying32 rfl (by kernel_rfl)) rfl ?_; exact ⟨_, _, fe, Kd.V_nil _ _ _ _ _, Kd.V_nil _ _ _ _ _, bh HB⟩
mutual
def Fn.l0 : Nat → List (S32) → Int → Int → ByteArray → Int → Int → List (Qaz) → List ByteArray → Int → Int → Option (Int)
 | 0, _, _, _, _, _, _, _, _, _, _ => none
 | k + 1, x5, x6, x7, E0, o0, I0, A0, u0, n0, C0 => if x7 < (x5.length : Int) then (Fn.l1 k x5 x6 x7 false 0 E0 o0 I0 A0 u0 n0 C0) else (some x6)
def Fn.l1 : Nat → List (S32) → Int → Int → Bool → Int → ByteArray → Int → Int → List (Qaz) → List ByteArray → Int → Int → Option (Int)
 | 0, _, _, _, _, _, _, _, _, _, _, _, _ => none
 | k + 1, x5, x6, x7, x8, x9, n0, u0, I0, C0, A0, o0, E0 => if 0 ≤ x7 then (if x7 < (x5.length : Int) then (if x9 < (((Qab x5 x7).f1.f3).length : Int) then (if x8 = true then (Fn.l1 k x5 x6 x7 true (wrap64 (x9 + 1)) n0 u0 I0 C0 A0 o0 E0) else (if 0 ≤ x9 then (Fn.l1 k x5 x6 x7 ((Qby ByteArray.empty ((Qab x5 x7).f1.f3) x9).toList == n0.toList) (wrap64 (x9 + 1)) n0 u0 I0 C0 A0 o0 E0) else (none))) else (if x8 = true then (Fn.l0 k x5 (wrap64 (x6 + 1)) (wrap64 (x7 + 1)) n0 u0 I0 C0 A0 o0 E0) else (Fn.l0 k x5 x6 (wrap64 (x7 + 1)) n0 u0 I0 C0 A0 o0 E0))) else (none)) else (none)
end
def Fn.f (k : Nat) (a0_0 a0_1 : Int) (l0_2 : List (S32)) (o0 : ByteArray) (I0 n0 : Int) (E0 : List (Qaz)) (C0 : List ByteArray) (A0 u0 : Int) : Option (Int) := (F6.f k a0_0 a0_1 l0_2 (wrap64 (n0 + 1))).bind fun L0 => (Fn.l0 k L0 0 0 o0 I0 n0 E0 C0 A0 u0)
theorem Fn.calls (k : Nat) (a0_0 a0_1 : Int) (A0_2 : Option Addr) (c0_2 : Nat) (l0_2 : List (S32)) (C2 : ByteArray) (Z2 V1 : Int) (u4 : Option Addr) (Z3 : Nat) (X1 : List (Qaz)) (k4 : Option Addr) (E4 : Nat) (U1 : List ByteArray) (L2 Q2 r : Int) (w : World) (hr0_2 : Kd.C k32 w A0_2 l0_2.length l0_2) (hc0_2 : l0_2.length ≤ c0_2) (C5 : Kd.C Qbm w u4 X1.length X1) (c5 : X1.length ≤ Z3) (A5 : Kd.C Kd.string w k4 U1.length U1) (p5 : U1.length ≤ E4) (h : Fn.f k a0_0 a0_1 l0_2 C2 Z2 V1 X1 U1 L2 Q2 = some r) :
  Calls Tryz.prog 15 #[.agg #[.int .i64 a0_0, .int .i64 a0_1, .slice A0_2 l0_2.length c0_2], .agg #[.string C2, .int .i64 Z2, .int .i64 V1, .slice u4 X1.length Z3, .slice k4 U1.length E4, .int .i64 L2, .int .i64 Q2]] w fun e w' => e = .returned (.int .i64 r) ∧ Below w.heap.size w w' := by
 have C7 := Tryz.underlying24; have A7 := Tryz.underlying32; have V4 := am_ hr0_2; have S4 := am_ hc0_2; clear hr0_2 hc0_2; have t7 := am_ C5; have i7 := am_ c5; clear C5 c5; have s7 := am_ A5; have p7 := am_ p5; clear A5 p5; have HB := am_ (Below.refl w.heap.size w); have H := h; unfold Fn.f at H; clear h; replace H := bi H; obtain ⟨V0, A3, H⟩ := H; try dsimp only at H
 have H' := am_ H; clear H; go_enter Tryz.func15, Tryz.ntmps15
 go_wp2_with (first | (refine bf_ 2 #[.int .i64 a0_0, .int .i64 a0_1, .slice A0_2 l0_2.length c0_2] 24 HB ?_; intro P1 hg w4 hb u0 D5 HB; clear hb hg) | (refine bf_ 3 #[.string C2, .int .i64 Z2, .int .i64 V1, .slice u4 X1.length Z3, .slice k4 U1.length E4, .int .i64 L2, .int .i64 Q2] 32 HB ?_; intro O1 hg w5 hb N0 m5 HB; obtain ⟨Z0, Q1⟩ := tN u0 hg; replace u0 := tBb u0 hb; clear hb hg; have _ := n2 Z0; obtain ⟨j6, Q5, L5, E5, O5, p6⟩ := bx3 u0; obtain ⟨K5, k6, Z5, R5, J5, I5, W5, S5, m6, i6, c6, o6, P5, Y5⟩ := bx7 N0) | (go_at_call 36; (with_reducible refine (F6.calls k a0_0 a0_1 (fun k_ => k_ < w.heap.size) _ _ l0_2 (wrap64 (V1 + 1)) V0 _ ?Y3 A3.out).mono ?_); (case Y3 => exact Kd.V_mk S4.out (Kd.F_below (Kd.C_F Qbn V4.out) (bh HB))); rintro e w9 ⟨M5, rfl, i5, hb⟩; have W4 := lqN (fun k_ => k_ ≠ P1 ∧ k_ ≠ O1) i5 HB; replace u0 := tBb u0 hb; replace N0 := tBb N0 hb; replace HB := tHb HB hb; (try clear hb i5)))
 (try simp only [Act.put, List.setIfInBounds_toArray, List.set_cons_zero, List.set_cons_succ])
 repeat (go_quiet (first | (refine bf_ 2 #[.int .i64 a0_0, .int .i64 a0_1, .slice A0_2 l0_2.length c0_2] 24 HB ?_; intro P1 hg w4 hb u0 D5 HB; clear hb hg) | (refine bf_ 3 #[.string C2, .int .i64 Z2, .int .i64 V1, .slice u4 X1.length Z3, .slice k4 U1.length E4, .int .i64 L2, .int .i64 Q2] 32 HB ?_; intro O1 hg w5 hb N0 m5 HB; obtain ⟨Z0, Q1⟩ := tN u0 hg; replace u0 := tBb u0 hb; clear hb hg; have _ := n2 Z0; obtain ⟨j6, Q5, L5, E5, O5, p6⟩ := bx3 u0; obtain ⟨K5, k6, Z5, R5, J5, I5, W5, S5, m6, i6, c6, o6, P5, Y5⟩ := bx7 N0) | (go_at_call 36; (with_reducible refine (F6.calls k a0_0 a0_1 (fun k_ => k_ < w.heap.size) _ _ l0_2 (wrap64 (V1 + 1)) V0 _ ?Y3 A3.out).mono ?_); (case Y3 => exact Kd.V_mk S4.out (Kd.F_below (Kd.C_F Qbn V4.out) (bh HB))); rintro e w9 ⟨M5, rfl, i5, hb⟩; have W4 := lqN (fun k_ => k_ ≠ P1 ∧ k_ ≠ O1) i5 HB; replace u0 := tBb u0 hb; replace N0 := tBb N0 hb; replace HB := tHb HB hb; (try clear hb i5))); try go_wp2_with (first | (refine bf_ 2 #[.int .i64 a0_0, .int .i64 a0_1, .slice A0_2 l0_2.length c0_2] 24 HB ?_; intro P1 hg w4 hb u0 D5 HB; clear hb hg) | (refine bf_ 3 #[.string C2, .int .i64 Z2, .int .i64 V1, .slice u4 X1.length Z3, .slice k4 U1.length E4, .int .i64 L2, .int .i64 Q2] 32 HB ?_; intro O1 hg w5 hb N0 m5 HB; obtain ⟨Z0, Q1⟩ := tN u0 hg; replace u0 := tBb u0 hb; clear hb hg; have _ := n2 Z0; obtain ⟨j6, Q5, L5, E5, O5, p6⟩ := bx3 u0; obtain ⟨K5, k6, Z5, R5, J5, I5, W5, S5, m6, i6, c6, o6, P5, Y5⟩ := bx7 N0) | (go_at_call 36; (with_reducible refine (F6.calls k a0_0 a0_1 (fun k_ => k_ < w.heap.size) _ _ l0_2 (wrap64 (V1 + 1)) V0 _ ?Y3 A3.out).mono ?_); (case Y3 => exact Kd.V_mk S4.out (Kd.F_below (Kd.C_F Qbn V4.out) (bh HB))); rintro e w9 ⟨M5, rfl, i5, hb⟩; have W4 := lqN (fun k_ => k_ ≠ P1 ∧ k_ ≠ O1) i5 HB; replace u0 := tBb u0 hb; replace N0 := tBb N0 hb; replace HB := tHb HB hb; (try clear hb i5))))
 go_loopg [6, 7] k (fun kq v6 v7 w' => ∃ (R4 : Int) (A0 : Int), v6 = .int .i64 R4 ∧ v7 = .int .i64 A0 ∧ Asc (Fn.l0 kq V0 R4 A0 C2 Z2 V1 X1 U1 L2 Q2 = some r) ∧ Asc (kq ≤ k) ∧ Asc (Kd.N k32 32 w' w.heap.size (fun k_ => k_ ≠ P1 ∧ k_ ≠ O1) M5 V0) ∧ Asc (w'.heap[P1]? = some (.cells #[.int .i64 a0_0, .int .i64 a0_1, (.slice A0_2 l0_2.length c0_2)] 24 (0, 0))) ∧ Asc (w'.heap[O1]? = some (.cells #[.string C2, .int .i64 Z2, .int .i64 V1, (.slice u4 X1.length Z3), (.slice k4 U1.length E4), .int .i64 L2, .int .i64 Q2] 32 (0, 0))) ∧ Asc (Below w.heap.size w w'))
 case atStart => exact ⟨(0), (0), fr, fr, H', ⟨Nat.le_refl _⟩, ⟨hN W4⟩, ⟨gB u0⟩, ⟨gB N0⟩, ⟨bh HB⟩⟩
 case round =>
  clear H'; try clear j6 Q5 L5 K5 k6 Z5 R5 J5 I5 W5 E5 O5 p6 S5 m6 i6 c6 o6 P5 Y5
  obtain ⟨R4, A0, rfl, rfl, HA, l5, HO_5, u0, N0, HB⟩ := hrel
  cases gk with
  | zero => exact absurd HA.out (by simp [Fn.l0])
  | succ k1 =>
   have H := HA.out; clear HA; simp only [Fn.l0] at H
   by_cases c10 : A0 < (V0.length : Int)
   ·
    rw [if_pos c10] at H; have s5 := dT c10; clear c10; have H' := am_ H; clear H; obtain ⟨S6, Z6, V6⟩ := Kd.N_slice HO_5.out; subst V6; go_wp2; repeat (go_quiet (fail); try go_wp2)
    go_loopg [8, 9] k1 (fun kq v8 v9 w' => ∃ (X5 : Bool) (D2 : Int), v8 = .bool X5 ∧ v9 = .int .i64 D2 ∧ Asc (Fn.l1 kq V0 R4 A0 X5 D2 C2 Z2 V1 X1 U1 L2 Q2 = some r) ∧ Asc (kq ≤ k1) ∧ Asc (Kd.N k32 32 w' w.heap.size (fun k_ => k_ ≠ P1 ∧ k_ ≠ O1) (.slice S6 V0.length Z6) V0) ∧ Asc (w'.heap[P1]? = some (.cells #[.int .i64 a0_0, .int .i64 a0_1, (.slice A0_2 l0_2.length c0_2)] 24 (0, 0))) ∧ Asc (w'.heap[O1]? = some (.cells #[.string C2, .int .i64 Z2, .int .i64 V1, (.slice u4 X1.length Z3), (.slice k4 U1.length E4), .int .i64 L2, .int .i64 Q2] 32 (0, 0))) ∧ Asc (Below w.heap.size w w'))
    case atStart => exact ⟨(false), (0), fr, fr, H', ⟨Nat.le_refl _⟩, ⟨hN HO_5⟩, ⟨gB u0⟩, ⟨gB N0⟩, ⟨bh HB⟩⟩
    case round =>
     clear H'; try clear s5
     obtain ⟨X5, D2, rfl, rfl, HA, k5, HO_5, u0, N0, HB⟩ := hrel
     cases gk with
     | zero => exact absurd HA.out (by simp [Fn.l1])
     | succ k2 =>
      have H := HA.out; clear HA; simp only [Fn.l1] at H; revert H; refine gi (fun j7 H => ?_); revert H; refine gi (fun l7 H => ?_)
      by_cases q6 : D2 < (((Qab V0 A0).f1.f3).length : Int)
      ·
       rw [if_pos q6] at H; have s6 := dT q6; clear q6; replace H := ib H; obtain ⟨rfl, H⟩ | ⟨rfl, H⟩ := H
       ·
        have H' := am_ H; clear H; have D1 : 0 ≤ (A0 : Int) := dt; have C1 : A0 < (V0.length : Int) := dt; obtain ⟨K4, I4, D4, s4, m4, C4, k3, m3, Y2, Y0, X0, I3, D3, O0, U0, P0, Q0⟩ := Qao (Kd.N_reads' HO_5.out).2.2 A0 D1 C1; cases C4; obtain ⟨U4, N1, L1, M0⟩ := Kd.N_get HO_5.out z32 A0 D1 (by first | exact C1 | exact dt | (have e_ := (Kd.N_reads' HO_5.out).1; omega)); obtain ⟨V2, s3, Q3, X3, rfl, E0, L0, I0, C0⟩ := Qap L1; have o0 := M0 3 _ rfl; rw [Qaf _ _ 3 (by omega)] at o0; replace o0 := Option.some.inj (o0.symm.trans Y0)
        injection o0 with hva_ hvn_ hvc_
        rw [hva_] at L0; rw [hvc_] at E0; have L3 := am_ (show Kd.V Qbm 107 _ w.heap.size _ _ ((Qab V0 A0).f1.f2) from Kd.V_mk E0 L0); clear hva_ hvn_ hvc_ L0 E0; have n0 := M0 4 _ rfl; rw [Qaf _ _ 4 (by omega)] at n0; replace n0 := Option.some.inj (n0.symm.trans X0)
        injection n0 with hva_ hvn_ hvc_
        rw [hva_] at C0; rw [hvc_] at I0; have V3 := am_ (show Kd.V Kd.string 9 _ w.heap.size _ _ ((Qab V0 A0).f1.f3) from Kd.V_mk I0 C0); clear hva_ hvn_ hvc_ C0 I0 M0 N1; have J3 := am_ U0; have S3 := am_ O0; clear U0 O0; have N2 := am_ Q0; have N3 := am_ P0; clear Q0 P0; replace D1 := eq_true D1; replace C1 := eq_true C1; go_wp2; repeat (go_quiet (fail); try go_wp2)
        go_roundg k2
        case measure => have := l5.out; have := k5.out; omega
        case rel => exact ⟨(true), (wrap64 (D2 + 1)), fr, fr, H', ⟨by have := l5.out; have := k5.out; omega⟩, ⟨hN HO_5⟩, ⟨gB u0⟩, ⟨gB N0⟩, ⟨bh HB⟩⟩
       revert H; refine gi (fun m7 H => ?_); have H' := am_ H; clear H; have D1 : 0 ≤ (A0 : Int) := dt; have C1 : A0 < (V0.length : Int) := dt; obtain ⟨K4, I4, D4, s4, m4, C4, k3, m3, Y2, Y0, X0, I3, D3, O0, U0, P0, Q0⟩ := Qao (Kd.N_reads' HO_5.out).2.2 A0 D1 C1; cases C4; obtain ⟨U4, N1, L1, M0⟩ := Kd.N_get HO_5.out z32 A0 D1 (by first | exact C1 | exact dt | (have e_ := (Kd.N_reads' HO_5.out).1; omega)); obtain ⟨V2, s3, Q3, X3, rfl, E0, L0, I0, C0⟩ := Qap L1; have o0 := M0 3 _ rfl; rw [Qaf _ _ 3 (by omega)] at o0; replace o0 := Option.some.inj (o0.symm.trans Y0)
       injection o0 with hva_ hvn_ hvc_
       rw [hva_] at L0; rw [hvc_] at E0; have L3 := am_ (show Kd.V Qbm 107 _ w.heap.size _ _ ((Qab V0 A0).f1.f2) from Kd.V_mk E0 L0); clear hva_ hvn_ hvc_ L0 E0; have n0 := M0 4 _ rfl; rw [Qaf _ _ 4 (by omega)] at n0; replace n0 := Option.some.inj (n0.symm.trans X0)
       injection n0 with hva_ hvn_ hvc_
       rw [hva_] at C0; rw [hvc_] at I0; have V3 := am_ (show Kd.V Kd.string 9 _ w.heap.size _ _ ((Qab V0 A0).f1.f3) from Kd.V_mk I0 C0); clear hva_ hvn_ hvc_ C0 I0 M0 N1; have J3 := am_ U0; have S3 := am_ O0; clear U0 O0; have N2 := am_ Q0; have N3 := am_ P0; clear Q0 P0; replace D1 := eq_true D1; replace C1 := eq_true C1; have X4 : 0 ≤ (A0 : Int) := dt; have Z4 : A0 < (V0.length : Int) := dt; obtain ⟨r6, d7, Y6, f7, W6, U6, J6, L6, N6, Q4, O4, I6, C6, L4, P4, N4, M4⟩ := Qao (Kd.N_reads' HO_5.out).2.2 A0 X4 Z4; obtain rfl : K4 = r6 := (by injection U6); obtain ⟨o7, U5, V5, J4⟩ := Kd.N_get HO_5.out z32 A0 X4 (by first | exact Z4 | exact dt | (have e_ := (Kd.N_reads' HO_5.out).1; omega)); obtain ⟨E6, M6, K6, R6, rfl, U3, u3, J2, C3⟩ := Qap V5; have Y1 := J4 3 _ rfl; rw [Qaf _ _ 3 (by omega)] at Y1; replace Y1 := Option.some.inj (Y1.symm.trans Q4)
       injection Y1 with hva_ hvn_ hvc_
       rw [hva_] at u3; rw [hvc_] at U3; have D6 := am_ (show Kd.V Qbm 107 _ w.heap.size _ _ ((Qab V0 A0).f1.f2) from Kd.V_mk U3 u3); clear hva_ hvn_ hvc_ u3 U3; have Z1 := J4 4 _ rfl; rw [Qaf _ _ 4 (by omega)] at Z1; replace Z1 := Option.some.inj (Z1.symm.trans O4)
       injection Z1 with hva_ hvn_ hvc_
       rw [hva_] at C3; rw [hvc_] at J2; have Q6 := am_ (show Kd.V Kd.string 9 _ w.heap.size _ _ ((Qab V0 A0).f1.f3) from Kd.V_mk J2 C3); clear hva_ hvn_ hvc_ C3 J2 J4 U5; have O6 := am_ P4; have P6 := am_ L4; clear P4 L4; have Y4 := am_ M4; have A6 := am_ N4; clear M4 N4; replace X4 := eq_true X4; replace Z4 := eq_true Z4; have ea_ := Option.some.inj (Y0.symm.trans Q4)
       injection ea_ with ea_ en_ ec_
       subst ea_; subst ec_; clear en_; have ea_ := Option.some.inj (X0.symm.trans O4)
       injection ea_ with ea_ en_ ec_
       subst ea_; subst ec_; clear en_; have N5 : 0 ≤ (D2 : Int) := dt; have l6 : D2 < (((Qab V0 A0).f1.f3).length : Int) := dt; obtain ⟨k7, X6, z6⟩ := Kd.at_string Y4.out D2 N5 l6; cases X6; replace N5 := eq_true N5; replace l6 := eq_true l6; have _ := n2 Q1; have _ := bx7 N0; go_wp2; repeat (go_quiet (fail); try go_wp2)
       go_roundg k2
       case measure => have := l5.out; have := k5.out; omega
       case rel => exact ⟨(((Qby ByteArray.empty ((Qab V0 A0).f1.f3) D2).toList == C2.toList)), (wrap64 (D2 + 1)), fr, fr, H', ⟨by have := l5.out; have := k5.out; omega⟩, ⟨hN HO_5⟩, ⟨gB u0⟩, ⟨gB N0⟩, ⟨bh HB⟩⟩
      rw [if_neg q6] at H; have s6 := dF q6; clear q6; replace H := ib H; obtain ⟨rfl, H⟩ | ⟨rfl, H⟩ := H
      ·
       have H' := am_ H; clear H; have D1 : 0 ≤ (A0 : Int) := dt; have C1 : A0 < (V0.length : Int) := dt; obtain ⟨K4, I4, D4, s4, m4, C4, k3, m3, Y2, Y0, X0, I3, D3, O0, U0, P0, Q0⟩ := Qao (Kd.N_reads' HO_5.out).2.2 A0 D1 C1; cases C4; obtain ⟨U4, N1, L1, M0⟩ := Kd.N_get HO_5.out z32 A0 D1 (by first | exact C1 | exact dt | (have e_ := (Kd.N_reads' HO_5.out).1; omega)); obtain ⟨V2, s3, Q3, X3, rfl, E0, L0, I0, C0⟩ := Qap L1; have o0 := M0 3 _ rfl; rw [Qaf _ _ 3 (by omega)] at o0; replace o0 := Option.some.inj (o0.symm.trans Y0)
       injection o0 with hva_ hvn_ hvc_
       rw [hva_] at L0; rw [hvc_] at E0; have L3 := am_ (show Kd.V Qbm 107 _ w.heap.size _ _ ((Qab V0 A0).f1.f2) from Kd.V_mk E0 L0); clear hva_ hvn_ hvc_ L0 E0; have n0 := M0 4 _ rfl; rw [Qaf _ _ 4 (by omega)] at n0; replace n0 := Option.some.inj (n0.symm.trans X0)
       injection n0 with hva_ hvn_ hvc_
       rw [hva_] at C0; rw [hvc_] at I0; have V3 := am_ (show Kd.V Kd.string 9 _ w.heap.size _ _ ((Qab V0 A0).f1.f3) from Kd.V_mk I0 C0); clear hva_ hvn_ hvc_ C0 I0 M0 N1; have J3 := am_ U0; have S3 := am_ O0; clear U0 O0; have N2 := am_ Q0; have N3 := am_ P0; clear Q0 P0; replace D1 := eq_true D1; replace C1 := eq_true C1; go_wp2; repeat (go_quiet (fail); try go_wp2)
       go_roundg k2
       case measure => have := l5.out; have := k5.out; omega
       case rel => exact ⟨(wrap64 (R4 + 1)), (wrap64 (A0 + 1)), fr, fr, H', ⟨by have := l5.out; have := k5.out; omega⟩, ⟨hN HO_5⟩, ⟨gB u0⟩, ⟨gB N0⟩, ⟨bh HB⟩⟩
      have H' := am_ H; clear H; have D1 : 0 ≤ (A0 : Int) := dt; have C1 : A0 < (V0.length : Int) := dt; obtain ⟨K4, I4, D4, s4, m4, C4, k3, m3, Y2, Y0, X0, I3, D3, O0, U0, P0, Q0⟩ := Qao (Kd.N_reads' HO_5.out).2.2 A0 D1 C1; cases C4; obtain ⟨U4, N1, L1, M0⟩ := Kd.N_get HO_5.out z32 A0 D1 (by first | exact C1 | exact dt | (have e_ := (Kd.N_reads' HO_5.out).1; omega)); obtain ⟨V2, s3, Q3, X3, rfl, E0, L0, I0, C0⟩ := Qap L1; have o0 := M0 3 _ rfl; rw [Qaf _ _ 3 (by omega)] at o0; replace o0 := Option.some.inj (o0.symm.trans Y0)
      injection o0 with hva_ hvn_ hvc_
      rw [hva_] at L0; rw [hvc_] at E0; have L3 := am_ (show Kd.V Qbm 107 _ w.heap.size _ _ ((Qab V0 A0).f1.f2) from Kd.V_mk E0 L0); clear hva_ hvn_ hvc_ L0 E0; have n0 := M0 4 _ rfl; rw [Qaf _ _ 4 (by omega)] at n0; replace n0 := Option.some.inj (n0.symm.trans X0)
      injection n0 with hva_ hvn_ hvc_
      rw [hva_] at C0; rw [hvc_] at I0; have V3 := am_ (show Kd.V Kd.string 9 _ w.heap.size _ _ ((Qab V0 A0).f1.f3) from Kd.V_mk I0 C0); clear hva_ hvn_ hvc_ C0 I0 M0 N1; have J3 := am_ U0; have S3 := am_ O0; clear U0 O0; have N2 := am_ Q0; have N3 := am_ P0; clear Q0 P0; replace D1 := eq_true D1; replace C1 := eq_true C1; go_wp2; repeat (go_quiet (fail); try go_wp2)
      go_roundg k2
      case measure => have := l5.out; have := k5.out; omega
      case rel => exact ⟨(R4), (wrap64 (A0 + 1)), fr, fr, H', ⟨by have := l5.out; have := k5.out; omega⟩, ⟨hN HO_5⟩, ⟨gB u0⟩, ⟨gB N0⟩, ⟨bh HB⟩⟩
   rw [if_neg c10] at H; have s5 := dF c10; clear c10; obtain rfl := Option.some.inj H; obtain ⟨w7, z7, g7⟩ := Kd.N_slice HO_5.out; subst g7; go_wp2; repeat (go_quiet (fail); try go_wp2)
   go_ret; exact ⟨fe, bh HB⟩

def Gs.f (k : Nat) (a0_0 a0_1 : Int) (l0_2 : List (S32)) (a1 : Int) : Option (ByteArray × Int × Int × (List (Qaz)) × List ByteArray × Int × Int × Int) := (Gg.f k a0_0 a0_1 l0_2 a1).bind fun n0 => (if n0.2.2.2.2.2.2.2 = 0 then ((Fn.f k a0_0 a0_1 l0_2 n0.1 n0.2.1 n0.2.2.1 n0.2.2.2.1 n0.2.2.2.2.1 n0.2.2.2.2.2.1 n0.2.2.2.2.2.2.1).bind fun u0 => ((Gc.f a0_0).bind fun o0 => (if u0 < o0 then (some ((⟨#[]⟩ : ByteArray), 0, 0, ([] : List (Qaz)), ([] : List ByteArray), 0, 0, 12)) else (some (n0.1, n0.2.1, n0.2.2.1, n0.2.2.2.1, n0.2.2.2.2.1, n0.2.2.2.2.2.1, n0.2.2.2.2.2.2.1, 0))))) else (some ((⟨#[]⟩ : ByteArray), 0, 0, ([] : List (Qaz)), ([] : List ByteArray), 0, 0, n0.2.2.2.2.2.2.2)))
theorem Gs.calls (k : Nat) (a0_0 a0_1 : Int) (N0 : Nat → Prop) (A0_2 : Option Addr) (c0_2 : Nat) (l0_2 : List (S32)) (a1 : Int) (r1 : ByteArray) (r2 r3 : Int) (r4 : List (Qaz)) (r5 : List ByteArray) (r6 r7 r8 : Int) (w : World) (N3 : Kd.V k32 32 w w.heap.size (fun k_ => N0 k_) (.slice A0_2 l0_2.length c0_2) l0_2) (h : Gs.f k a0_0 a0_1 l0_2 a1 = some (r1, r2, r3, r4, r5, r6, r7, r8)) :
  Calls Tryz.prog 12 #[.agg #[.int .i64 a0_0, .int .i64 a0_1, .slice A0_2 l0_2.length c0_2], .int .i64 a1] w fun e w' => ∃ V3 X3 : Value, e = .returned (.tuple #[.agg #[.string r1, .int .i64 r2, .int .i64 r3, V3, X3, .int .i64 r6, .int .i64 r7], .int .i64 r8]) ∧ Kd.V Qbm 107 w' w.heap.size (fun k_ => (N0 k_ ∨ w.heap.size ≤ k_)) V3 r4 ∧ Kd.V Kd.string 9 w' w.heap.size (fun k_ => (N0 k_ ∨ w.heap.size ≤ k_)) X3 r5 ∧ Below w.heap.size w w' := by
 have J4 := Tryz.underlying24; have m4 := Tryz.underlying32; have u0 := am_ (show Kd.V k32 32 w w.heap.size (fun k_ => (N0 k_ ∨ w.heap.size ≤ k_)) (.slice A0_2 l0_2.length c0_2) l0_2 from Kd.V_mono N3 (fun k_ hk => .inl hk)); have HB := am_ (Below.refl w.heap.size w); have H := h; unfold Gs.f at H; clear h; replace H := bi H; obtain ⟨⟨Z0, U0, D1, C1, X0, Y0, V0, Q2⟩, A3, H⟩ := H; try dsimp only at H
 by_cases c4 : Q2 = 0
 ·
  rw [if_pos c4] at H; obtain ⟨Q3, S3⟩ := et c4; clear c4; replace H := bi H; obtain ⟨D3, A5, H⟩ := H; try dsimp only at H
  replace H := bi H; obtain ⟨I3, A6, H⟩ := H; try dsimp only at H
  by_cases c7 : D3 < I3
  ·
   rw [if_pos c7] at H; have U3 := dT c7; clear c7; replace H := oi8 H; obtain ⟨rfl, rfl, rfl, rfl, rfl, rfl, rfl, rfl⟩ := H; go_enter Tryz.func12, Tryz.ntmps12; try go_wp2_with (first | (refine bf_ 2 #[.int .i64 a0_0, .int .i64 a0_1, .slice A0_2 l0_2.length c0_2] 24 HB ?_; intro L0 hg w8 hb o0 C3 HB; replace u0 := tVe u0 hg hb; clear hb hg) | (refine bf_ 4 #[.string (⟨#[]⟩ : ByteArray), .int .i64 0, .int .i64 0, .slice none 0 0, .slice none 0 0, .int .i64 0, .int .i64 0] 32 HB ?_; intro M0 hg w9 hb A0 k3 HB; replace u0 := tVe u0 hg hb; obtain ⟨P0, N1⟩ := tN o0 hg; replace o0 := tBb o0 hb; clear hb hg; have _ := n2 P0; have _ := bx3 o0) | (refine gl_ (some 11) Tryz.func10 #[.agg #[.int .i64 a0_0, .int .i64 a0_1, .slice A0_2 l0_2.length c0_2], .int .i64 a1] ?_; (with_reducible refine (Gg.calls k a0_0 a0_1 (fun k_ => (((N0 k_ ∨ w.heap.size ≤ k_) ∧ k_ ≠ L0) ∧ k_ ≠ M0)) _ _ l0_2 a1 Z0 U0 D1 C1 X0 Y0 V0 Q2 _ ?L1 A3.out).mono ?_); (case L1 => exact u0.out); rintro e U4 ⟨J3, L3, rfl, m3, Z2, hb⟩; refine ⟨_, rfl, ?_⟩; replace u0 := tVb u0 hb; have I0 := lq (fun k_ => (N0 k_ ∨ w.heap.size ≤ k_) ∧ k_ ≠ L0 ∧ k_ ≠ M0) m3 HB; have E0 := lq (fun k_ => (N0 k_ ∨ w.heap.size ≤ k_) ∧ k_ ≠ L0 ∧ k_ ≠ M0) Z2 HB; replace o0 := tBb o0 hb; replace A0 := tBb A0 hb; replace HB := tHb HB hb; (try clear hb m3 Z2)) | (refine bf_ 6 #[.string (⟨#[]⟩ : ByteArray), .int .i64 0, .int .i64 0, .slice none 0 0, .slice none 0 0, .int .i64 0, .int .i64 0] 32 HB ?_; intro C0 hg D4 hb n0 u3 HB; replace u0 := tVe u0 hg hb; replace I0 := tVe I0 hg hb; replace E0 := tVe E0 hg hb; obtain ⟨P1, Q0⟩ := tN o0 hg; replace o0 := tBb o0 hb; obtain ⟨O1, O0⟩ := tN A0 hg; replace A0 := tBb A0 hb; clear hb hg; have _ := n2 Q0; have _ := n2 O0; have _ := bx7 n0; obtain ⟨N2, L2, rfl⟩ := Kd.V_slice I0.out; obtain ⟨V2, Y2, rfl⟩ := Kd.V_slice E0.out) | ((with_reducible refine Qar (t := 32) (p := 6) rfl ?_); refine se_ 32 6 (((((((D4.setCell ⟨C0, 0, none⟩ (.string Z0)).setCell ⟨C0, 1, none⟩ (.int .i64 U0)).setCell ⟨C0, 2, none⟩ (.int .i64 D1)).setCell ⟨C0, 3, none⟩ (.slice N2 C1.length L2)).setCell ⟨C0, 4, none⟩ (.slice V2 X0.length Y2)).setCell ⟨C0, 5, none⟩ (.int .i64 Y0)).setCell ⟨C0, 6, none⟩ (.int .i64 V0)) ?_; intro Y3 hw; replace u0 := gVw (fun k_ => (N0 k_ ∨ w.heap.size ≤ k_) ∧ k_ ≠ L0 ∧ k_ ≠ M0 ∧ k_ ≠ C0) u0 hw; replace I0 := gVw (fun k_ => (N0 k_ ∨ w.heap.size ≤ k_) ∧ k_ ≠ L0 ∧ k_ ≠ M0 ∧ k_ ≠ C0) I0 hw; replace E0 := gVw (fun k_ => (N0 k_ ∨ w.heap.size ≤ k_) ∧ k_ ≠ L0 ∧ k_ ≠ M0 ∧ k_ ≠ C0) E0 hw; replace o0 := sB o0 hw; replace A0 := sB A0 hw; replace n0 := sP #[.string Z0, .int .i64 U0, .int .i64 D1, .slice N2 C1.length L2, .slice V2 X0.length Y2, .int .i64 Y0, .int .i64 V0] n0 hw; replace HB := sH HB hw; clear hw))
   replace u0 := am_ (Kd.V_drew u0.out); replace I0 := am_ (Kd.V_drew I0.out); replace E0 := am_ (Kd.V_drew E0.out); replace o0 := am_ (Qag o0.out); replace A0 := am_ (Qag A0.out); replace n0 := am_ (Qag n0.out); replace HB := am_ (Qaj HB.out); refine Qcw (n := 7) (S := fun w' => w'.cell? ⟨L0, 0, none⟩ = some (.int .i64 a0_0) ∧ w'.cell? ⟨L0, 1, none⟩ = some (.int .i64 a0_1) ∧ w'.cell? ⟨L0, 2, none⟩ = some (.slice A0_2 l0_2.length c0_2) ∧ w'.cell? ⟨C0, 0, none⟩ = some (.string Z0) ∧ w'.cell? ⟨C0, 1, none⟩ = some (.int .i64 U0) ∧ w'.cell? ⟨C0, 2, none⟩ = some (.int .i64 D1) ∧ w'.cell? ⟨C0, 3, none⟩ = some (.slice N2 C1.length L2) ∧ w'.cell? ⟨C0, 4, none⟩ = some (.slice V2 X0.length Y2) ∧ w'.cell? ⟨C0, 5, none⟩ = some (.int .i64 Y0) ∧ w'.cell? ⟨C0, 6, none⟩ = some (.int .i64 V0)) (ds := []) #[false, false, false, false, false, false, false] (by kernel_rfl) rfl rfl ⟨(Qaa o0.out 0).trans rfl, (Qaa o0.out 1).trans rfl, (Qaa o0.out 2).trans rfl, (Qaa n0.out 0).trans rfl, (Qaa n0.out 1).trans rfl, (Qaa n0.out 2).trans rfl, (Qaa n0.out 3).trans rfl, (Qaa n0.out 4).trans rfl, (Qaa n0.out 5).trans rfl, (Qaa n0.out 6).trans rfl⟩ (fun hHeld => ?_); generalize Y3.drew = W4 at u0 I0 E0 o0 A0 n0 HB hHeld ⊢; refine Qjd (i := 3) (N := some 21) (v := ?_) (a' := ?_) #[false, false, false, true, false, false, false] rfl rfl (by kernel_rfl) (fun _ _ _ h => h) (Or.inl ⟨by rfl, ?_⟩) ?_ ?_; rotate_left
   ·
    intro w'; go_simp
    with_reducible rfl
   rotate_left
   ·
    exact pt_
   refine take_ (i := 0) (N := some 18) (v := ?_) (a' := ?_) #[true, false, false, true, false, false, false] rfl rfl (by kernel_rfl) (fun _ _ _ h => h) (Or.inl ⟨by rfl, ?_⟩) hHeld ?_ ?_; rotate_left
   ·
    rintro w' ⟨s0, s1, s2, s3, s4, s5, s6, s7, s8, s9⟩; go_simp
    with_reducible rfl
   rotate_left
   ·
    exact pt_
   refine take_ (i := 1) (N := some 19) (v := ?_) (a' := ?_) #[true, true, false, true, false, false, false] rfl rfl (by kernel_rfl) (fun _ _ _ h => h) (Or.inl ⟨by rfl, ?_⟩) hHeld ?_ ?_; rotate_left
   ·
    rintro w' ⟨s0, s1, s2, s3, s4, s5, s6, s7, s8, s9⟩; go_simp
    with_reducible rfl
   rotate_left
   ·
    exact pt_
   refine take_ (i := 4) (N := some 22) (v := ?_) (a' := ?_) #[true, true, false, true, true, false, false] rfl rfl (by kernel_rfl) (fun _ _ _ h => h) (Or.inl ⟨by rfl, ?_⟩) hHeld ?_ ?_; rotate_left
   ·
    rintro w' ⟨s0, s1, s2, s3, s4, s5, s6, s7, s8, s9⟩; go_simp
    with_reducible rfl
   rotate_left
   ·
    exact pt_
   refine Qjg (i := 2) (N := some 20) #[true, true, true, true, true, false, false] rfl rfl (by kernel_rfl) (by decide) (fun K hK => ?_); refine Qdo Tryz.func15 #[.agg #[.int .i64 a0_0, .int .i64 a0_1, .slice A0_2 l0_2.length c0_2], .agg #[.string Z0, .int .i64 U0, .int .i64 D1, .slice N2 C1.length L2, .slice V2 X0.length Y2, .int .i64 Y0, .int .i64 V0]] ?_
   with_reducible refine (Fn.calls k a0_0 a0_1 _ _ l0_2 Z0 U0 D1 _ _ C1 _ _ X0 Y0 V0 D3 _ ?L1 ?U1 ?D2 ?V1 ?J2 ?C2 A5.out).mono ?_
   (case L1 => exact vC u0)
   (case U1 => exact vL u0)
   (case D2 => exact vC I0)
   (case V1 => exact vL I0)
   (case J2 => exact vC E0)
   (case C2 => exact vL E0)
   rintro e O4 ⟨rfl, hb⟩; refine ⟨_, rfl, ?_⟩; replace u0 := tVb u0 hb; replace I0 := tVb I0 hb; replace E0 := tVb E0 hb; replace o0 := tBb o0 hb; replace A0 := tBb A0 hb; replace n0 := tBb n0 hb; replace HB := tHb HB hb
   (try clear hb)
   (try clear K4)
   (try clear hk)
   (try clear hi)
   refine hK.out _ _ ⟨(Qaa o0.out 0).trans rfl, (Qaa o0.out 1).trans rfl, (Qaa o0.out 2).trans rfl, (Qaa n0.out 0).trans rfl, (Qaa n0.out 1).trans rfl, (Qaa n0.out 2).trans rfl, (Qaa n0.out 3).trans rfl, (Qaa n0.out 4).trans rfl, (Qaa n0.out 5).trans rfl, (Qaa n0.out 6).trans rfl⟩ (fun hHeld => ?_); clear hK K; refine Qbb (a' := ?_) ?_ ?_; rotate_left
   ·
    show Act.put _ (some 20) _ = _; exact pt_
   refine Qjg (i := 5) (N := some 23) #[true, true, true, true, true, true, false] rfl rfl (by kernel_rfl) (by decide) (fun K hK => ?_); refine Qdo Tryz.func32 #[.int .i64 a0_0] ?_
   with_reducible refine (Gc.calls a0_0 I3 _ A6.out).mono ?_
   rintro e w' ⟨rfl, ⟨nd, rfl⟩⟩; refine ⟨_, rfl, ?_⟩; refine hK.out _ _ ⟨(Qaa o0.out 0).trans rfl, (Qaa o0.out 1).trans rfl, (Qaa o0.out 2).trans rfl, (Qaa n0.out 0).trans rfl, (Qaa n0.out 1).trans rfl, (Qaa n0.out 2).trans rfl, (Qaa n0.out 3).trans rfl, (Qaa n0.out 4).trans rfl, (Qaa n0.out 5).trans rfl, (Qaa n0.out 6).trans rfl⟩ (fun hHeld => ?_); clear hK K; refine Qbb (a' := ?_) ?_ ?_; rotate_left
   ·
    show Act.put _ (some 23) _ = _; exact pt_
   refine Qjd (i := 6) (N := some 24) (v := ?_) (a' := ?_) #[true, true, true, true, true, true, true] rfl rfl (by kernel_rfl) (fun _ _ _ h => h) (Or.inl ⟨by rfl, ?_⟩) ?_ ?_; rotate_left
   ·
    intro w'; go_simp
    with_reducible rfl
   rotate_left
   ·
    exact pt_
   refine Qbt (by kernel_rfl) ?_; have _ := bx7 A0; try go_wp2
   refine bodyPost_ret (Qak rfl _ _ M0 32 #[.string (⟨#[]⟩ : ByteArray), .int .i64 0, .int .i64 0, .slice none 0 0, .slice none 0 0, .int .i64 0, .int .i64 0] (0, 0) _ rfl (gP A0 rfl) Tryz.underlying32 rfl (by kernel_rfl)) rfl ?_; exact ⟨_, _, fe, Kd.V_nil _ _ _ _ _, Kd.V_nil _ _ _ _ _, bh HB⟩
  rw [if_neg c7] at H; have U3 := dF c7; clear c7; replace H := oi8 H; obtain ⟨rfl, rfl, rfl, rfl, rfl, rfl, rfl, rfl⟩ := H; go_enter Tryz.func12, Tryz.ntmps12; try go_wp2_with (first | (refine bf_ 2 #[.int .i64 a0_0, .int .i64 a0_1, .slice A0_2 l0_2.length c0_2] 24 HB ?_; intro L0 hg X4 hb o0 C3 HB; replace u0 := tVe u0 hg hb; clear hb hg) | (refine bf_ 4 #[.string (⟨#[]⟩ : ByteArray), .int .i64 0, .int .i64 0, .slice none 0 0, .slice none 0 0, .int .i64 0, .int .i64 0] 32 HB ?_; intro M0 hg P4 hb A0 k3 HB; replace u0 := tVe u0 hg hb; obtain ⟨P0, N1⟩ := tN o0 hg; replace o0 := tBb o0 hb; clear hb hg; have _ := n2 P0; have _ := bx3 o0) | (refine gl_ (some 11) Tryz.func10 #[.agg #[.int .i64 a0_0, .int .i64 a0_1, .slice A0_2 l0_2.length c0_2], .int .i64 a1] ?_; (with_reducible refine (Gg.calls k a0_0 a0_1 (fun k_ => (((N0 k_ ∨ w.heap.size ≤ k_) ∧ k_ ≠ L0) ∧ k_ ≠ M0)) _ _ l0_2 a1 Z0 U0 D1 C1 X0 Y0 V0 Q2 _ ?L1 A3.out).mono ?_); (case L1 => exact u0.out); rintro e Q4 ⟨J3, L3, rfl, m3, Z2, hb⟩; refine ⟨_, rfl, ?_⟩; replace u0 := tVb u0 hb; have I0 := lq (fun k_ => (N0 k_ ∨ w.heap.size ≤ k_) ∧ k_ ≠ L0 ∧ k_ ≠ M0) m3 HB; have E0 := lq (fun k_ => (N0 k_ ∨ w.heap.size ≤ k_) ∧ k_ ≠ L0 ∧ k_ ≠ M0) Z2 HB; replace o0 := tBb o0 hb; replace A0 := tBb A0 hb; replace HB := tHb HB hb; (try clear hb m3 Z2)) | (refine bf_ 6 #[.string (⟨#[]⟩ : ByteArray), .int .i64 0, .int .i64 0, .slice none 0 0, .slice none 0 0, .int .i64 0, .int .i64 0] 32 HB ?_; intro C0 hg u4 hb n0 u3 HB; replace u0 := tVe u0 hg hb; replace I0 := tVe I0 hg hb; replace E0 := tVe E0 hg hb; obtain ⟨P1, Q0⟩ := tN o0 hg; replace o0 := tBb o0 hb; obtain ⟨O1, O0⟩ := tN A0 hg; replace A0 := tBb A0 hb; clear hb hg; have _ := n2 Q0; have _ := n2 O0; have _ := bx7 n0; obtain ⟨Z1, X1, rfl⟩ := Kd.V_slice I0.out; obtain ⟨Q1, Y1, rfl⟩ := Kd.V_slice E0.out) | ((with_reducible refine Qar (t := 32) (p := 6) rfl ?_); refine se_ 32 6 (((((((u4.setCell ⟨C0, 0, none⟩ (.string Z0)).setCell ⟨C0, 1, none⟩ (.int .i64 U0)).setCell ⟨C0, 2, none⟩ (.int .i64 D1)).setCell ⟨C0, 3, none⟩ (.slice Z1 C1.length X1)).setCell ⟨C0, 4, none⟩ (.slice Q1 X0.length Y1)).setCell ⟨C0, 5, none⟩ (.int .i64 Y0)).setCell ⟨C0, 6, none⟩ (.int .i64 V0)) ?_; intro Z3 hw; replace u0 := gVw (fun k_ => (N0 k_ ∨ w.heap.size ≤ k_) ∧ k_ ≠ L0 ∧ k_ ≠ M0 ∧ k_ ≠ C0) u0 hw; replace I0 := gVw (fun k_ => (N0 k_ ∨ w.heap.size ≤ k_) ∧ k_ ≠ L0 ∧ k_ ≠ M0 ∧ k_ ≠ C0) I0 hw; replace E0 := gVw (fun k_ => (N0 k_ ∨ w.heap.size ≤ k_) ∧ k_ ≠ L0 ∧ k_ ≠ M0 ∧ k_ ≠ C0) E0 hw; replace o0 := sB o0 hw; replace A0 := sB A0 hw; replace n0 := sP #[.string Z0, .int .i64 U0, .int .i64 D1, .slice Z1 C1.length X1, .slice Q1 X0.length Y1, .int .i64 Y0, .int .i64 V0] n0 hw; replace HB := sH HB hw; clear hw))
  replace u0 := am_ (Kd.V_drew u0.out); replace I0 := am_ (Kd.V_drew I0.out); replace E0 := am_ (Kd.V_drew E0.out); replace o0 := am_ (Qag o0.out); replace A0 := am_ (Qag A0.out); replace n0 := am_ (Qag n0.out); replace HB := am_ (Qaj HB.out); refine Qcw (n := 7) (S := fun w' => w'.cell? ⟨L0, 0, none⟩ = some (.int .i64 a0_0) ∧ w'.cell? ⟨L0, 1, none⟩ = some (.int .i64 a0_1) ∧ w'.cell? ⟨L0, 2, none⟩ = some (.slice A0_2 l0_2.length c0_2) ∧ w'.cell? ⟨C0, 0, none⟩ = some (.string Z0) ∧ w'.cell? ⟨C0, 1, none⟩ = some (.int .i64 U0) ∧ w'.cell? ⟨C0, 2, none⟩ = some (.int .i64 D1) ∧ w'.cell? ⟨C0, 3, none⟩ = some (.slice Z1 C1.length X1) ∧ w'.cell? ⟨C0, 4, none⟩ = some (.slice Q1 X0.length Y1) ∧ w'.cell? ⟨C0, 5, none⟩ = some (.int .i64 Y0) ∧ w'.cell? ⟨C0, 6, none⟩ = some (.int .i64 V0)) (ds := []) #[false, false, false, false, false, false, false] (by kernel_rfl) rfl rfl ⟨(Qaa o0.out 0).trans rfl, (Qaa o0.out 1).trans rfl, (Qaa o0.out 2).trans rfl, (Qaa n0.out 0).trans rfl, (Qaa n0.out 1).trans rfl, (Qaa n0.out 2).trans rfl, (Qaa n0.out 3).trans rfl, (Qaa n0.out 4).trans rfl, (Qaa n0.out 5).trans rfl, (Qaa n0.out 6).trans rfl⟩ (fun hHeld => ?_); generalize Z3.drew = R4 at u0 I0 E0 o0 A0 n0 HB hHeld ⊢; refine Qjd (i := 3) (N := some 21) (v := ?_) (a' := ?_) #[false, false, false, true, false, false, false] rfl rfl (by kernel_rfl) (fun _ _ _ h => h) (Or.inl ⟨by rfl, ?_⟩) ?_ ?_; rotate_left
  ·
   intro w'; go_simp
   with_reducible rfl
  rotate_left
  ·
   exact pt_
  refine take_ (i := 0) (N := some 18) (v := ?_) (a' := ?_) #[true, false, false, true, false, false, false] rfl rfl (by kernel_rfl) (fun _ _ _ h => h) (Or.inl ⟨by rfl, ?_⟩) hHeld ?_ ?_; rotate_left
  ·
   rintro w' ⟨s0, s1, s2, s3, s4, s5, s6, s7, s8, s9⟩; go_simp
   with_reducible rfl
  rotate_left
  ·
   exact pt_
  refine take_ (i := 1) (N := some 19) (v := ?_) (a' := ?_) #[true, true, false, true, false, false, false] rfl rfl (by kernel_rfl) (fun _ _ _ h => h) (Or.inl ⟨by rfl, ?_⟩) hHeld ?_ ?_; rotate_left
  ·
   rintro w' ⟨s0, s1, s2, s3, s4, s5, s6, s7, s8, s9⟩; go_simp
   with_reducible rfl
  rotate_left
  ·
   exact pt_
  refine take_ (i := 4) (N := some 22) (v := ?_) (a' := ?_) #[true, true, false, true, true, false, false] rfl rfl (by kernel_rfl) (fun _ _ _ h => h) (Or.inl ⟨by rfl, ?_⟩) hHeld ?_ ?_; rotate_left
  ·
   rintro w' ⟨s0, s1, s2, s3, s4, s5, s6, s7, s8, s9⟩; go_simp
   with_reducible rfl
  rotate_left
  ·
   exact pt_
  refine Qjg (i := 2) (N := some 20) #[true, true, true, true, true, false, false] rfl rfl (by kernel_rfl) (by decide) (fun K hK => ?_); refine Qdo Tryz.func15 #[.agg #[.int .i64 a0_0, .int .i64 a0_1, .slice A0_2 l0_2.length c0_2], .agg #[.string Z0, .int .i64 U0, .int .i64 D1, .slice Z1 C1.length X1, .slice Q1 X0.length Y1, .int .i64 Y0, .int .i64 V0]] ?_
  with_reducible refine (Fn.calls k a0_0 a0_1 _ _ l0_2 Z0 U0 D1 _ _ C1 _ _ X0 Y0 V0 D3 _ ?L1 ?U1 ?D2 ?V1 ?J2 ?C2 A5.out).mono ?_
  (case L1 => exact vC u0)
  (case U1 => exact vL u0)
  (case D2 => exact vC I0)
  (case V1 => exact vL I0)
  (case J2 => exact vC E0)
  (case C2 => exact vL E0)
  rintro e N4 ⟨rfl, hb⟩; refine ⟨_, rfl, ?_⟩; replace u0 := tVb u0 hb; replace I0 := tVb I0 hb; replace E0 := tVb E0 hb; replace o0 := tBb o0 hb; replace A0 := tBb A0 hb; replace n0 := tBb n0 hb; replace HB := tHb HB hb
  (try clear hb)
  (try clear K4)
  (try clear hk)
  (try clear hi)
  refine hK.out _ _ ⟨(Qaa o0.out 0).trans rfl, (Qaa o0.out 1).trans rfl, (Qaa o0.out 2).trans rfl, (Qaa n0.out 0).trans rfl, (Qaa n0.out 1).trans rfl, (Qaa n0.out 2).trans rfl, (Qaa n0.out 3).trans rfl, (Qaa n0.out 4).trans rfl, (Qaa n0.out 5).trans rfl, (Qaa n0.out 6).trans rfl⟩ (fun hHeld => ?_); clear hK K; refine Qbb (a' := ?_) ?_ ?_; rotate_left
  ·
   show Act.put _ (some 20) _ = _; exact pt_
  refine Qjg (i := 5) (N := some 23) #[true, true, true, true, true, true, false] rfl rfl (by kernel_rfl) (by decide) (fun K hK => ?_); refine Qdo Tryz.func32 #[.int .i64 a0_0] ?_
  with_reducible refine (Gc.calls a0_0 I3 _ A6.out).mono ?_
  rintro e w' ⟨rfl, ⟨nd, rfl⟩⟩; refine ⟨_, rfl, ?_⟩; refine hK.out _ _ ⟨(Qaa o0.out 0).trans rfl, (Qaa o0.out 1).trans rfl, (Qaa o0.out 2).trans rfl, (Qaa n0.out 0).trans rfl, (Qaa n0.out 1).trans rfl, (Qaa n0.out 2).trans rfl, (Qaa n0.out 3).trans rfl, (Qaa n0.out 4).trans rfl, (Qaa n0.out 5).trans rfl, (Qaa n0.out 6).trans rfl⟩ (fun hHeld => ?_); clear hK K; refine Qbb (a' := ?_) ?_ ?_; rotate_left
  ·
   show Act.put _ (some 23) _ = _; exact pt_
  refine Qjd (i := 6) (N := some 24) (v := ?_) (a' := ?_) #[true, true, true, true, true, true, true] rfl rfl (by kernel_rfl) (fun _ _ _ h => h) (Or.inl ⟨by rfl, ?_⟩) ?_ ?_; rotate_left
  ·
   intro w'; go_simp
   with_reducible rfl
  rotate_left
  ·
   exact pt_
  refine Qbt (by kernel_rfl) ?_; have _ := bx7 n0; have _ := bx7 A0; try go_wp2
  refine bodyPost_ret (Qak rfl _ _ M0 32 #[.string Z0, .int .i64 U0, .int .i64 D1, .slice Z1 C1.length X1, .slice Q1 X0.length Y1, .int .i64 Y0, .int .i64 V0] (0, 0) _ rfl (gP A0 rfl) Tryz.underlying32 rfl (by kernel_rfl)) rfl ?_; exact ⟨_, _, fe, gV I0, gV E0, bh HB⟩
 rw [if_neg c4] at H; obtain ⟨Q3, S3⟩ := ef c4; replace H := oi8 H; obtain ⟨rfl, rfl, rfl, rfl, rfl, rfl, rfl, rfl⟩ := H; go_enter Tryz.func12, Tryz.ntmps12
 go_wp2_with (first | (refine bf_ 2 #[.int .i64 a0_0, .int .i64 a0_1, .slice A0_2 l0_2.length c0_2] 24 HB ?_; intro L0 hg L4 hb o0 C3 HB; replace u0 := tVe u0 hg hb; clear hb hg) | (refine bf_ 4 #[.string (⟨#[]⟩ : ByteArray), .int .i64 0, .int .i64 0, .slice none 0 0, .slice none 0 0, .int .i64 0, .int .i64 0] 32 HB ?_; intro M0 hg S4 hb A0 k3 HB; replace u0 := tVe u0 hg hb; obtain ⟨P0, N1⟩ := tN o0 hg; replace o0 := tBb o0 hb; clear hb hg; have _ := n2 P0; have _ := bx3 o0) | (refine gl_ (some 11) Tryz.func10 #[.agg #[.int .i64 a0_0, .int .i64 a0_1, .slice A0_2 l0_2.length c0_2], .int .i64 a1] ?_; (with_reducible refine (Gg.calls k a0_0 a0_1 (fun k_ => (((N0 k_ ∨ w.heap.size ≤ k_) ∧ k_ ≠ L0) ∧ k_ ≠ M0)) _ _ l0_2 a1 Z0 U0 D1 C1 X0 Y0 V0 Q2 _ ?L1 A3.out).mono ?_); (case L1 => exact u0.out); rintro e V4 ⟨J3, L3, rfl, m3, Z2, hb⟩; refine ⟨_, rfl, ?_⟩; replace u0 := tVb u0 hb; have I0 := lq (fun k_ => (N0 k_ ∨ w.heap.size ≤ k_) ∧ k_ ≠ L0 ∧ k_ ≠ M0) m3 HB; have E0 := lq (fun k_ => (N0 k_ ∨ w.heap.size ≤ k_) ∧ k_ ≠ L0 ∧ k_ ≠ M0) Z2 HB; replace o0 := tBb o0 hb; replace A0 := tBb A0 hb; replace HB := tHb HB hb; (try clear hb m3 Z2)) | (refine bf_ 6 #[.string (⟨#[]⟩ : ByteArray), .int .i64 0, .int .i64 0, .slice none 0 0, .slice none 0 0, .int .i64 0, .int .i64 0] 32 HB ?_; intro C0 hg M4 hb n0 u3 HB; replace u0 := tVe u0 hg hb; replace I0 := tVe I0 hg hb; replace E0 := tVe E0 hg hb; obtain ⟨P1, Q0⟩ := tN o0 hg; replace o0 := tBb o0 hb; obtain ⟨O1, O0⟩ := tN A0 hg; replace A0 := tBb A0 hb; clear hb hg; have _ := n2 Q0; have _ := n2 O0; have _ := bx7 n0; obtain ⟨k4, C4, rfl⟩ := Kd.V_slice I0.out; obtain ⟨E4, I4, rfl⟩ := Kd.V_slice E0.out; have _ := bx7 A0))
 refine bodyPost_ret (Qak rfl _ _ M0 32 #[.string (⟨#[]⟩ : ByteArray), .int .i64 0, .int .i64 0, .slice none 0 0, .slice none 0 0, .int .i64 0, .int .i64 0] (0, 0) _ rfl (gP A0 rfl) Tryz.underlying32 rfl (by kernel_rfl)) rfl ?_; exact ⟨_, _, fe, Kd.V_nil _ _ _ _ _, Kd.V_nil _ _ _ _ _, bh HB⟩

def Gq.f (a0 : Int) : Option (Int) := if a0 < 1 then (some 0) else (if (Int.tmod a0 3) = 0 then (some (wrap64 (Int.tdiv a0 3))) else (some (wrap64 ((wrap64 (Int.tdiv a0 3)) + 1))))
theorem Gq.calls (a0 r : Int) (w : World) (h : Gq.f a0 = some r) :
  Calls Tryz.prog 38 #[.int .i64 a0] w fun e w' => e = .returned (.int .i64 r) ∧ Qae w w' := by
 have H := h; unfold Gq.f at H; clear h
 by_cases c2 : a0 < 1
 ·
  rw [if_pos c2] at H; have n0 := dT c2; clear c2; obtain rfl := Option.some.inj H; go_enter Tryz.func38, Tryz.ntmps38; go_wp2; go_ret; exact ⟨fr, by repeat (first | exact Qae.refl _ | apply Qae.step)⟩
 rw [if_neg c2] at H; have n0 := dF c2; clear c2
 by_cases c3 : (Int.tmod a0 3) = 0
 ·
  rw [if_pos c3] at H; obtain ⟨u0, o0⟩ := et c3; clear c3; obtain rfl := Option.some.inj H; go_enter Tryz.func38, Tryz.ntmps38; go_wp2; go_ret; exact ⟨fr, by repeat (first | exact Qae.refl _ | apply Qae.step)⟩
 rw [if_neg c3] at H; obtain ⟨u0, o0⟩ := ef c3; obtain rfl := Option.some.inj H; go_enter Tryz.func38, Tryz.ntmps38; go_wp2; go_ret; exact ⟨fr, by repeat (first | exact Qae.refl _ | apply Qae.step)⟩
def G7.l0 : Nat → Int → Int → Int → Int → List (S32) → Option (Int)
 | 0, _, _, _, _, _ => none
 | k + 1, x3, x4, o0, u0, n0 => if x4 < (n0.length : Int) then (if 0 ≤ x4 then ((Gq.f ((Qab n0 x4).f1.f1)).bind fun A0 => (if A0 > x3 then (G7.l0 k A0 (wrap64 (x4 + 1)) o0 u0 n0) else (G7.l0 k x3 (wrap64 (x4 + 1)) o0 u0 n0))) else (none)) else (some x3)
def G7.f (k : Nat) (a0_0 a0_1 : Int) (l0_2 : List (S32)) : Option (Int) := G7.l0 k 0 0 a0_0 a0_1 l0_2
theorem G7.calls (k : Nat) (a0_0 a0_1 : Int) (A0_2 : Option Addr) (c0_2 : Nat) (l0_2 : List (S32)) (r : Int) (w : World) (hr0_2 : Kd.C k32 w A0_2 l0_2.length l0_2) (hc0_2 : l0_2.length ≤ c0_2) (h : G7.f k a0_0 a0_1 l0_2 = some r) :
  Calls Tryz.prog 17 #[.agg #[.int .i64 a0_0, .int .i64 a0_1, .slice A0_2 l0_2.length c0_2]] w fun e w' => e = .returned (.int .i64 r) ∧ Below w.heap.size w w' := by
 have Q2 := Tryz.underlying24; have N1 := am_ hr0_2; have J2 := am_ hc0_2; clear hr0_2 hc0_2; have HB := am_ (Below.refl w.heap.size w); have H := h; unfold G7.f at H; clear h; have H' := am_ H; clear H; go_enter Tryz.func17, Tryz.ntmps17
 go_wp2_with (first | (refine bf_ 1 #[.int .i64 a0_0, .int .i64 a0_1, .slice A0_2 l0_2.length c0_2] 24 HB ?_; intro X1 hg w2 hb Q0 L2 HB; clear hb hg))
 go_loopg [3, 4] k (fun kq v3 v4 w' => ∃ (U0 : Int) (n0 : Int), v3 = .int .i64 U0 ∧ v4 = .int .i64 n0 ∧ Asc (G7.l0 kq U0 n0 a0_0 a0_1 l0_2 = some r) ∧ Asc (kq ≤ k) ∧ Asc (w'.heap[X1]? = some (.cells #[.int .i64 a0_0, .int .i64 a0_1, (.slice A0_2 l0_2.length c0_2)] 24 (0, 0))) ∧ Asc (Below w.heap.size w w'))
 case atStart => exact ⟨(0), (0), fr, fr, H', ⟨Nat.le_refl _⟩, ⟨gB Q0⟩, ⟨bh HB⟩⟩
 case round =>
  clear H'; obtain ⟨U0, n0, rfl, rfl, HA, Z1, Q0, HB⟩ := hrel
  cases gk with
  | zero => exact absurd HA.out (by simp [G7.l0])
  | succ k1 =>
   have H := HA.out; clear HA; simp only [G7.l0] at H
   by_cases c3 : n0 < (l0_2.length : Int)
   ·
    rw [if_pos c3] at H; have D2 := dT c3; clear c3; revert H; refine gi (fun N2 H => ?_); replace H := bi H; obtain ⟨Y0, A5, H⟩ := H; try dsimp only at H
    by_cases c6 : Y0 > U0
    ·
     rw [if_pos c6] at H; have C2 : decide (U0 < Y0) = true := dT c6; clear c6; have H' := am_ H; clear H; have _ := bx3 Q0; have V0 : 0 ≤ (n0 : Int) := dt; have X0 : n0 < (l0_2.length : Int) := dt; obtain ⟨Y1, U1, Q1, P1, O1, V1, M0, u0, A0, E0, C0, N0, o0, I0, P0, O0, L0⟩ := Qao N1.out n0 V0 X0; cases V1; replace M0 := ce HB M0; replace u0 := ce HB u0; replace A0 := ce HB A0; replace E0 := ce HB E0; replace C0 := ce HB C0; replace N0 := ce HB N0; replace o0 := ce HB o0; have C1 := am_ P0; have Z0 := am_ I0; clear P0 I0; have D1 := am_ L0; have L1 := am_ O0; clear L0 O0; replace V0 := eq_true V0; replace X0 := eq_true X0
     go_wp2_with (first | (refine gl_ (some 20) Tryz.func38 #[.int .i64 ((Qab l0_2 n0).f1.f1)] ?_; (with_reducible refine (Gq.calls ((Qab l0_2 n0).f1.f1) Y0 _ A5.out).mono ?_); rintro e w' ⟨rfl, ⟨nd, rfl⟩⟩; refine ⟨_, rfl, ?_⟩))
     go_roundg k1
     case measure => have := Z1.out; omega
     case rel => exact ⟨(Y0), (wrap64 (n0 + 1)), fr, fr, H', kS Z1, ⟨gB Q0⟩, ⟨bh HB⟩⟩
    rw [if_neg c6] at H; have C2 : decide (U0 < Y0) = false := dF c6; clear c6; have H' := am_ H; clear H; have _ := bx3 Q0; have V0 : 0 ≤ (n0 : Int) := dt; have X0 : n0 < (l0_2.length : Int) := dt; obtain ⟨Y1, U1, Q1, P1, O1, V1, M0, u0, A0, E0, C0, N0, o0, I0, P0, O0, L0⟩ := Qao N1.out n0 V0 X0; cases V1; replace M0 := ce HB M0; replace u0 := ce HB u0; replace A0 := ce HB A0; replace E0 := ce HB E0; replace C0 := ce HB C0; replace N0 := ce HB N0; replace o0 := ce HB o0; have C1 := am_ P0; have Z0 := am_ I0; clear P0 I0; have D1 := am_ L0; have L1 := am_ O0; clear L0 O0; replace V0 := eq_true V0; replace X0 := eq_true X0
    go_wp2_with (first | (refine gl_ (some 20) Tryz.func38 #[.int .i64 ((Qab l0_2 n0).f1.f1)] ?_; (with_reducible refine (Gq.calls ((Qab l0_2 n0).f1.f1) Y0 _ A5.out).mono ?_); rintro e w' ⟨rfl, ⟨nd, rfl⟩⟩; refine ⟨_, rfl, ?_⟩))
    go_roundg k1
    case measure => have := Z1.out; omega
    case rel => exact ⟨(U0), (wrap64 (n0 + 1)), fr, fr, H', kS Z1, ⟨gB Q0⟩, ⟨bh HB⟩⟩
   rw [if_neg c3] at H; have D2 := dF c3; clear c3; obtain rfl := Option.some.inj H; have _ := bx3 Q0; go_wp2; go_ret; exact ⟨fe, bh HB⟩
mutual
def F0.l0 : Nat → ByteArray → List Bool → Int → Int → Int → Int → List (S32) → Option (List Bool)
 | 0, _, _, _, _, _, _, _ => none
 | k + 1, x1, x5, x6, x7, u0, o0, n0 => if x7 ≥ 0 then (if 0 ≤ x7 then (if x7 < (n0.length : Int) then (if ((Qab n0 x7).f0).toList = x1.toList then (F0.l0 k x1 x5 x7 (wrap64 (x7 - 1)) u0 o0 n0) else (F0.l0 k x1 x5 x6 (wrap64 (x7 - 1)) u0 o0 n0)) else (none)) else (none)) else (if x6 < 0 then (some x5) else (if 0 ≤ x6 then (if x6 < (x5.length : Int) then (F0.l1 k (x5.set (x6 : Int).toNat true) true u0 o0 n0) else (none)) else (none)))
def F0.l1 : Nat → List Bool → Bool → Int → Int → List (S32) → Option (List Bool)
 | 0, _, _, _, _, _ => none
 | k + 1, x5, x8, u0, o0, n0 => if x8 = true then (F0.l2 k x5 false 0 u0 o0 n0) else (some x5)
def F0.l2 : Nat → List Bool → Bool → Int → Int → Int → List (S32) → Option (List Bool)
 | 0, _, _, _, _, _, _ => none
 | k + 1, x5, x8, x9, u0, o0, n0 => if x9 < (n0.length : Int) then (F0.l3 k x5 x8 x9 0 u0 o0 n0) else (F0.l1 k x5 x8 u0 o0 n0)
def F0.l3 : Nat → List Bool → Bool → Int → Int → Int → Int → List (S32) → Option (List Bool)
 | 0, _, _, _, _, _, _, _ => none
 | k + 1, x5, x8, x9, A0, u0, o0, n0 => if A0 < (n0.length : Int) then (if 0 ≤ x9 then (if x9 < (x5.length : Int) then (F0.j4 k x5 x8 x9 A0 (Qby false x5 x9) u0 o0 n0) else (none)) else (none)) else (F0.j4 k x5 x8 x9 A0 false u0 o0 n0)
def F0.j4 : Nat → List Bool → Bool → Int → Int → Bool → Int → Int → List (S32) → Option (List Bool)
 | 0, _, _, _, _, _, _, _, _ => none
 | k + 1, x5, x8, x9, A0, C0, u0, o0, n0 => if C0 = true then (if 0 ≤ A0 then (if A0 < (x5.length : Int) then (if Qby false x5 A0 = true then (F0.j5 k x5 x8 x9 A0 true u0 o0 n0) else (if A0 < (n0.length : Int) then (if 0 ≤ x9 then (if x9 < (n0.length : Int) then (F0.j5 k x5 x8 x9 A0 (((Qab n0 A0).f1.f1) != (wrap64 (((Qab n0 x9).f1.f1) - 1))) u0 o0 n0) else (none)) else (none)) else (none))) else (none)) else (none)) else (F0.l2 k x5 x8 (wrap64 (x9 + 1)) u0 o0 n0)
def F0.j5 : Nat → List Bool → Bool → Int → Int → Bool → Int → Int → List (S32) → Option (List Bool)
 | 0, _, _, _, _, _, _, _, _ => none
 | k + 1, x5, x8, x9, A0, C0, u0, o0, n0 => if C0 = true then (F0.l3 k x5 x8 x9 (wrap64 (A0 + 1)) u0 o0 n0) else (F0.l4 k x5 x8 x9 A0 0 u0 o0 n0)
def F0.l4 : Nat → List Bool → Bool → Int → Int → Int → Int → Int → List (S32) → Option (List Bool)
 | 0, _, _, _, _, _, _, _, _ => none
 | k + 1, x5, x8, x9, A0, C0, u0, o0, n0 => if 0 ≤ x9 then (if x9 < (n0.length : Int) then (if C0 < (((Qab n0 x9).f1.f3).length : Int) then (if 0 ≤ C0 then (if 0 ≤ A0 then (if A0 < (n0.length : Int) then (if (Qby ByteArray.empty ((Qab n0 x9).f1.f3) C0).toList = ((Qab n0 A0).f0).toList then (if A0 < (x5.length : Int) then (F0.l4 k (x5.set (A0 : Int).toNat true) true x9 A0 (wrap64 (C0 + 1)) u0 o0 n0) else (none)) else (F0.l4 k x5 x8 x9 A0 (wrap64 (C0 + 1)) u0 o0 n0)) else (none)) else (none)) else (none)) else (F0.l3 k x5 x8 x9 (wrap64 (A0 + 1)) u0 o0 n0)) else (none)) else (none)
end
def F0.f (k : Nat) (a0_0 a0_1 : Int) (l0_2 : List (S32)) (a1 : ByteArray) : Option (List Bool) := if 0 ≤ (l0_2.length : Int) then (if ((l0_2.length : Int) : Int).toNat ≤ 281474976710656 then (F0.l0 k a1 (List.replicate ((l0_2.length : Int) : Int).toNat false) (-1) (wrap64 ((l0_2.length : Int) - 1)) a0_0 a0_1 l0_2) else (none)) else (none)
theorem F0.calls (k : Nat) (a0_0 a0_1 : Int) (A0_2 : Option Addr) (c0_2 : Nat) (l0_2 : List (S32)) (a1 : ByteArray) (r : List Bool) (w : World) (hr0_2 : Kd.C k32 w A0_2 l0_2.length l0_2) (hc0_2 : l0_2.length ≤ c0_2) (h : F0.f k a0_0 a0_1 l0_2 a1 = some r) :
  Calls Tryz.prog 63 #[.agg #[.int .i64 a0_0, .int .i64 a0_1, .slice A0_2 l0_2.length c0_2], .string a1] w fun e w' => ∃ nA : Value, e = .returned (nA) ∧ Kd.R Kd.bool 4 w' w.heap.size (fun _ => True) nA r ∧ Below w.heap.size w w' := by
 have nB := Tryz.underlying24; have U1 := am_ hr0_2; have jA := am_ hc0_2; clear hr0_2 hc0_2; have HB := am_ (Below.refl w.heap.size w); have H := h; unfold F0.f at H; clear h
 by_cases c3 : 0 ≤ (l0_2.length : Int)
 ·
  rw [if_pos c3] at H; have gA := eq_true c3; have dA := dT c3; clear c3; revert H; refine gi' (fun c4 H => ?_); have Y9 := eq_true c4; have bA : decide (((l0_2.length : Int) : Int).toNat ≤ 281474976710656) = true := dT c4; clear c4; obtain ⟨S4, k5⟩ : ∃ y_ : List Bool, y_ = (List.replicate ((l0_2.length : Int) : Int).toNat false) := ⟨_, rfl⟩; replace H : (F0.l0 k a1 S4 (-1) (wrap64 ((l0_2.length : Int) - 1)) a0_0 a0_1 l0_2) = some r := by first | (rw [k5]; with_reducible exact H) | (have H := (Option.bind_some _ _).symm.trans H; first | (rw [k5]; with_reducible exact H) | with_reducible exact H) | with_reducible exact H | (rw [k5]; exact H) | exact H
  have R4 := am_ k5; clear k5; have H' := am_ H; clear H; go_enter Tryz.func63, Tryz.ntmps63
  go_wp2_with (first | (refine bf_ 2 #[.int .i64 a0_0, .int .i64 a0_1, .slice A0_2 l0_2.length c0_2] 24 HB ?_; intro Q3 hg w5 hb n0 Q7 HB; clear hb hg; obtain ⟨K8, R8, t8, j8, f8, C8⟩ := bx3 n0) | ((with_reducible refine gd_ 15 ?_); refine Kd.R_make Kd.bool _ 4 rfl (N := 15) rfl 90 _ _ rfl (l0_2.length : Int) rfl rfl Tryz.underlying90 (.bool false) 1 info4 rfl (by decide) (by omega) false (ok := fun _ => True) (okp := fun _ => True) rfl (fun _ hk => hk) trivial (dt) (Nat.le_trans (Nat.mul_le_mul_right _ (dt : (l0_2.length : Int).toNat ≤ 281474976710656)) (by omega)) (Below.refl _ _) (Nat.le_refl _) ?_; intro p8 w7 Z4 hb hg_ hnew_; clear hg_ hnew_; (first | rw [← R4.out] at Z4 | (simp only [Int.reduceToNat] at Z4; rw [← R4.out] at Z4)); have N6 := am_ (Kd.R_lower Z4 (Qac (bh HB))); replace n0 := tBb n0 hb; replace HB := tHb HB hb; clear hb Z4; obtain ⟨x8, P8, Q8, a8, d8, T8⟩ := bx3 n0))
  (try simp only [Act.put, List.setIfInBounds_toArray, List.set_cons_zero, List.set_cons_succ])
  repeat (go_quiet (first | (refine bf_ 2 #[.int .i64 a0_0, .int .i64 a0_1, .slice A0_2 l0_2.length c0_2] 24 HB ?_; intro Q3 hg w5 hb n0 Q7 HB; clear hb hg; obtain ⟨K8, R8, t8, j8, f8, C8⟩ := bx3 n0) | ((with_reducible refine gd_ 15 ?_); refine Kd.R_make Kd.bool _ 4 rfl (N := 15) rfl 90 _ _ rfl (l0_2.length : Int) rfl rfl Tryz.underlying90 (.bool false) 1 info4 rfl (by decide) (by omega) false (ok := fun _ => True) (okp := fun _ => True) rfl (fun _ hk => hk) trivial (dt) (Nat.le_trans (Nat.mul_le_mul_right _ (dt : (l0_2.length : Int).toNat ≤ 281474976710656)) (by omega)) (Below.refl _ _) (Nat.le_refl _) ?_; intro p8 w7 Z4 hb hg_ hnew_; clear hg_ hnew_; (first | rw [← R4.out] at Z4 | (simp only [Int.reduceToNat] at Z4; rw [← R4.out] at Z4)); have N6 := am_ (Kd.R_lower Z4 (Qac (bh HB))); replace n0 := tBb n0 hb; replace HB := tHb HB hb; clear hb Z4; obtain ⟨x8, P8, Q8, a8, d8, T8⟩ := bx3 n0)); try go_wp2_with (first | (refine bf_ 2 #[.int .i64 a0_0, .int .i64 a0_1, .slice A0_2 l0_2.length c0_2] 24 HB ?_; intro Q3 hg w5 hb n0 Q7 HB; clear hb hg; obtain ⟨K8, R8, t8, j8, f8, C8⟩ := bx3 n0) | ((with_reducible refine gd_ 15 ?_); refine Kd.R_make Kd.bool _ 4 rfl (N := 15) rfl 90 _ _ rfl (l0_2.length : Int) rfl rfl Tryz.underlying90 (.bool false) 1 info4 rfl (by decide) (by omega) false (ok := fun _ => True) (okp := fun _ => True) rfl (fun _ hk => hk) trivial (dt) (Nat.le_trans (Nat.mul_le_mul_right _ (dt : (l0_2.length : Int).toNat ≤ 281474976710656)) (by omega)) (Below.refl _ _) (Nat.le_refl _) ?_; intro p8 w7 Z4 hb hg_ hnew_; clear hg_ hnew_; (first | rw [← R4.out] at Z4 | (simp only [Int.reduceToNat] at Z4; rw [← R4.out] at Z4)); have N6 := am_ (Kd.R_lower Z4 (Qac (bh HB))); replace n0 := tBb n0 hb; replace HB := tHb HB hb; clear hb Z4; obtain ⟨x8, P8, Q8, a8, d8, T8⟩ := bx3 n0)))
  go_loopg [6, 7] k (fun kq v6 v7 w' => ∃ (P1 : Int) (V1 : Int), v6 = .int .i64 P1 ∧ v7 = .int .i64 V1 ∧ Asc (F0.l0 kq a1 S4 P1 V1 a0_0 a0_1 l0_2 = some r) ∧ Asc (kq ≤ k) ∧ Asc (Kd.R Kd.bool 4 w' w.heap.size (fun _ => True) p8 S4) ∧ Asc (w'.heap[Q3]? = some (.cells #[.int .i64 a0_0, .int .i64 a0_1, (.slice A0_2 l0_2.length c0_2)] 24 (0, 0))) ∧ Asc (Below w.heap.size w w'))
  case atStart => exact ⟨((-1)), (wrap64 ((l0_2.length : Int) - 1)), fr, fr, H', ⟨Nat.le_refl _⟩, ⟨hR N6⟩, ⟨gB n0⟩, ⟨bh HB⟩⟩
  case round =>
   clear H'; try clear gA dA Y9 bA K8 R8 t8 x8 P8 Q8 j8 f8 C8 a8 d8 T8
   obtain ⟨P1, V1, rfl, rfl, HA, P4, HO_5, n0, HB⟩ := hrel
   cases gk with
   | zero => exact absurd HA.out (by simp [F0.l0])
   | succ k1 =>
    have H := HA.out; clear HA; simp only [F0.l0] at H
    by_cases c10 : V1 ≥ 0
    ·
     rw [if_pos c10] at H; have R7 : decide (0 ≤ V1) = true := dT c10; clear c10; revert H; refine gi (fun vA H => ?_); revert H; refine gi (fun pA H => ?_)
     by_cases q9 : ((Qab l0_2 V1).f0).toList = a1.toList
     ·
      rw [if_pos q9] at H; obtain ⟨j9, p9⟩ := et q9; clear q9; have H' := am_ H; clear H; have _ := bx3 n0; have p5 : 0 ≤ (V1 : Int) := dt; have A5 : V1 < (l0_2.length : Int) := dt; obtain ⟨e9, E8, L8, q8, S7, b8, V3, u3, Q2, Z2, C3, Z1, Y1, N2, D2, D3, J3⟩ := Qao U1.out V1 p5 A5; cases b8; replace V3 := ce HB V3; replace u3 := ce HB u3; replace Q2 := ce HB Q2; replace Z2 := ce HB Z2; replace C3 := ce HB C3; replace Z1 := ce HB Z1; replace Y1 := ce HB Y1; have M7 := am_ D2; have A7 := am_ N2; clear D2 N2; have J7 := am_ J3; have p7 := am_ D3; clear J3 D3; replace p5 := eq_true p5; replace A5 := eq_true A5; go_wp2; repeat (go_quiet (fail); try go_wp2)
      go_roundg k1
      case measure => have := P4.out; omega
      case rel => exact ⟨(V1), (wrap64 (V1 - 1)), fr, fr, H', kS P4, ⟨hR HO_5⟩, ⟨gB n0⟩, ⟨bh HB⟩⟩
     rw [if_neg q9] at H; obtain ⟨j9, p9⟩ := ef q9; have H' := am_ H; clear H; have _ := bx3 n0; have p5 : 0 ≤ (V1 : Int) := dt; have A5 : V1 < (l0_2.length : Int) := dt; obtain ⟨e9, E8, L8, q8, S7, b8, V3, u3, Q2, Z2, C3, Z1, Y1, N2, D2, D3, J3⟩ := Qao U1.out V1 p5 A5; cases b8; replace V3 := ce HB V3; replace u3 := ce HB u3; replace Q2 := ce HB Q2; replace Z2 := ce HB Z2; replace C3 := ce HB C3; replace Z1 := ce HB Z1; replace Y1 := ce HB Y1; have M7 := am_ D2; have A7 := am_ N2; clear D2 N2; have J7 := am_ J3; have p7 := am_ D3; clear J3 D3; replace p5 := eq_true p5; replace A5 := eq_true A5; go_wp2; repeat (go_quiet (fail); try go_wp2)
     go_roundg k1
     case measure => have := P4.out; omega
     case rel => exact ⟨(P1), (wrap64 (V1 - 1)), fr, fr, H', kS P4, ⟨hR HO_5⟩, ⟨gB n0⟩, ⟨bh HB⟩⟩
    rw [if_neg c10] at H; have R7 : decide (0 ≤ V1) = false := dF c10; clear c10
    by_cases W8 : P1 < 0
    ·
     rw [if_pos W8] at H; have O7 := dT W8; clear W8; obtain rfl := Option.some.inj H; go_wp2; repeat (go_quiet (fail); try go_wp2)
     go_ret; exact ⟨_, fe, hR HO_5, bh HB⟩
    rw [if_neg W8] at H; have O7 := dF W8; clear W8; revert H; refine gi (fun w9 H => ?_); revert H; refine gi (fun b9 H => ?_); obtain ⟨O6, c5⟩ : ∃ y_ : List Bool, y_ = (S4.set (P1 : Int).toNat true) := ⟨_, rfl⟩; replace H : (F0.l1 k1 O6 true a0_0 a0_1 l0_2) = some r := by first | (rw [c5]; with_reducible exact H) | (have H := (Option.bind_some _ _).symm.trans H; first | (rw [c5]; with_reducible exact H) | with_reducible exact H) | with_reducible exact H | (rw [c5]; exact H) | exact H
    have P6 := am_ c5; clear c5; have H' := am_ H; clear H; have D8 : 0 ≤ (P1 : Int) := dt; have A8 : (P1 : Int) < ((S4.length : Int) : Int) := dt; obtain ⟨I0, J4, c9, f9, Z9, lB, g9⟩ := Kd.R_form HO_5.out (by omega)
    (first | cases c9 | (injection c9 with ea_ en_ ec_; (first | subst ea_ | (injection ea_ with ea_; subst ea_)); subst ec_; clear en_))
    have M6 := am_ f9; have dB := am_ g9; clear f9 Z9 g9; obtain ⟨V4, I5⟩ := Kd.R_celln false HO_5.out (P1 : Int) D8 A8; replace D8 := eq_true D8; replace A8 := eq_true A8; have E4 := Kd.R_putg HO_5.out (P1 : Int) true
    go_wp2_with (first | ((with_reducible refine Qar (t := 4) (p := 38) rfl ?_); (try (rw [Qbw wr]; generalize hq_ : World.drewN wr _ = wr; replace HO_5 := am_ (Kd.R_at hq_ HO_5.out); replace n0 := am_ (Qf3 hq_ n0.out); replace HB := am_ (Qc0 hq_ HB.out); clear hq_; (try (have E4 := Kd.R_putg HO_5.out (P1 : Int) true)); (try (obtain ⟨V4, I5⟩ := Kd.R_celln false HO_5.out (P1 : Int) (of_eq_true D8) (of_eq_true A8))))); refine se_ 4 38 (wr.setCell ⟨I0, (P1 : Int).toNat, none⟩ (.bool true)) ?_; intro g7 hw; have hg : wr.grownBy g7 (some I0) := (by rw [hw]; exact E4.2); have hp_ : Kd.R Kd.bool 4 g7 w.heap.size (fun _ => True) (.slice (some ⟨I0, 0, none⟩) S4.length J4) O6 := (by rw [hw, P6.out]; exact E4.1); clear E4; replace n0 := tBg n0 hg (Kd.R_ne HO_5.out n0.out (by decide)); replace HO_5 := am_ hp_; replace HB := am_ ((by rw [hw]; exact Qax (HB.out) M6.out : Below w.heap.size w g7)); clear hg hw hp_))
    (try simp only [Act.put, List.setIfInBounds_toArray, List.set_cons_zero, List.set_cons_succ])
    repeat (go_quiet (first | ((with_reducible refine Qar (t := 4) (p := 38) rfl ?_); (try (rw [Qbw wr]; generalize hq_ : World.drewN wr _ = wr; replace HO_5 := am_ (Kd.R_at hq_ HO_5.out); replace n0 := am_ (Qf3 hq_ n0.out); replace HB := am_ (Qc0 hq_ HB.out); clear hq_; (try (have E4 := Kd.R_putg HO_5.out (P1 : Int) true)); (try (obtain ⟨V4, I5⟩ := Kd.R_celln false HO_5.out (P1 : Int) (of_eq_true D8) (of_eq_true A8))))); refine se_ 4 38 (wr.setCell ⟨I0, (P1 : Int).toNat, none⟩ (.bool true)) ?_; intro g7 hw; have hg : wr.grownBy g7 (some I0) := (by rw [hw]; exact E4.2); have hp_ : Kd.R Kd.bool 4 g7 w.heap.size (fun _ => True) (.slice (some ⟨I0, 0, none⟩) S4.length J4) O6 := (by rw [hw, P6.out]; exact E4.1); clear E4; replace n0 := tBg n0 hg (Kd.R_ne HO_5.out n0.out (by decide)); replace HO_5 := am_ hp_; replace HB := am_ ((by rw [hw]; exact Qax (HB.out) M6.out : Below w.heap.size w g7)); clear hg hw hp_)); try go_wp2_with (first | ((with_reducible refine Qar (t := 4) (p := 38) rfl ?_); (try (rw [Qbw wr]; generalize hq_ : World.drewN wr _ = wr; replace HO_5 := am_ (Kd.R_at hq_ HO_5.out); replace n0 := am_ (Qf3 hq_ n0.out); replace HB := am_ (Qc0 hq_ HB.out); clear hq_; (try (have E4 := Kd.R_putg HO_5.out (P1 : Int) true)); (try (obtain ⟨V4, I5⟩ := Kd.R_celln false HO_5.out (P1 : Int) (of_eq_true D8) (of_eq_true A8))))); refine se_ 4 38 (wr.setCell ⟨I0, (P1 : Int).toNat, none⟩ (.bool true)) ?_; intro g7 hw; have hg : wr.grownBy g7 (some I0) := (by rw [hw]; exact E4.2); have hp_ : Kd.R Kd.bool 4 g7 w.heap.size (fun _ => True) (.slice (some ⟨I0, 0, none⟩) S4.length J4) O6 := (by rw [hw, P6.out]; exact E4.1); clear E4; replace n0 := tBg n0 hg (Kd.R_ne HO_5.out n0.out (by decide)); replace HO_5 := am_ hp_; replace HB := am_ ((by rw [hw]; exact Qax (HB.out) M6.out : Below w.heap.size w g7)); clear hg hw hp_)))
    go_loopg [8] k1 (fun kq v8 w' => ∃ (f7 : List Bool) (w8 : Bool), v8 = .bool w8 ∧ Asc (F0.l1 kq f7 w8 a0_0 a0_1 l0_2 = some r) ∧ Asc (kq ≤ k1) ∧ Asc (Kd.R Kd.bool 4 w' w.heap.size (fun _ => True) (.slice (some ⟨I0, 0, none⟩) S4.length J4) f7) ∧ Asc (w'.heap[Q3]? = some (.cells #[.int .i64 a0_0, .int .i64 a0_1, (.slice A0_2 l0_2.length c0_2)] 24 (0, 0))) ∧ Asc (Below w.heap.size w w'))
    case atStart => exact ⟨(O6), (true), fr, H', ⟨Nat.le_refl _⟩, ⟨hR HO_5⟩, ⟨gB n0⟩, ⟨bh HB⟩⟩
    case round =>
     clear H'; try clear R7 O7 w9 b9 D8 A8 V4
     obtain ⟨f7, w8, rfl, HA, l5, HO_5, n0, HB⟩ := hrel; have u0 := (Kd.R_reads' HO_5.out).1; rw [u0] at HO_5
     (try simp only [u0])
     (try simp only [u0] at n0)
     cases gk with
     | zero => exact absurd HA.out (by simp [F0.l1])
     | succ k2 =>
      have H := HA.out; clear HA; simp only [F0.l1] at H; replace H := ib H; obtain ⟨rfl, H⟩ | ⟨rfl, H⟩ := H
      ·
       have H' := am_ H; clear H; go_wp2; repeat (go_quiet (fail); try go_wp2)
       go_loopg [8, 9] k2 (fun kq v8 v9 w' => ∃ (L6 : List Bool) (U6 : Bool) (C0 : Int), v8 = .bool U6 ∧ v9 = .int .i64 C0 ∧ Asc (F0.l2 kq L6 U6 C0 a0_0 a0_1 l0_2 = some r) ∧ Asc (kq ≤ k2) ∧ Asc (Kd.R Kd.bool 4 w' w.heap.size (fun _ => True) (.slice (some ⟨I0, 0, none⟩) f7.length J4) L6) ∧ Asc (w'.heap[Q3]? = some (.cells #[.int .i64 a0_0, .int .i64 a0_1, (.slice A0_2 l0_2.length c0_2)] 24 (0, 0))) ∧ Asc (Below w.heap.size w w'))
       case atStart => exact ⟨(f7), (false), (0), fr, fr, H', ⟨Nat.le_refl _⟩, ⟨by (try simp only [u0]); (with_reducible repeat (first | apply Kd.R_alloc | apply Kd.R_drewN | apply Kd.R_drew)); exact HO_5.out⟩, ⟨by (try simp only [u0]); (with_reducible repeat (first | refine Qa7 ?_ _ | refine Qag ?_ | refine Qah ?_ _)); exact n0.out⟩, ⟨bh HB⟩⟩
       case round =>
        clear H'; try clear tB
        obtain ⟨L6, U6, C0, rfl, rfl, HA, m5, HO_5, n0, HB⟩ := hrel; have A0 := (Kd.R_reads' HO_5.out).1; rw [A0] at HO_5
        (try simp only [A0])
        (try simp only [A0] at n0)
        cases gk with
        | zero => exact absurd HA.out (by simp [F0.l2])
        | succ k3 =>
         have H := HA.out; clear HA; simp only [F0.l2] at H
         by_cases a9 : C0 < (l0_2.length : Int)
         ·
          rw [if_pos a9] at H; have P7 := dT a9; clear a9; have H' := am_ H; clear H; obtain ⟨l9, i9, t9, B9, z9, s9⟩ := bx3 n0; go_wp2; repeat (go_quiet (fail); try go_wp2)
          go_loopg [8, 10] k3 (fun kq v8 pB w' => ∃ (L1 : List Bool) (N4 : Bool) (o0 : Int), v8 = .bool N4 ∧ pB = .int .i64 o0 ∧ Asc (F0.l3 kq L1 N4 C0 o0 a0_0 a0_1 l0_2 = some r) ∧ Asc (kq ≤ k3) ∧ Asc (Kd.R Kd.bool 4 w' w.heap.size (fun _ => True) (.slice (some ⟨I0, 0, none⟩) L6.length J4) L1) ∧ Asc (w'.heap[Q3]? = some (.cells #[.int .i64 a0_0, .int .i64 a0_1, (.slice A0_2 l0_2.length c0_2)] 24 (0, 0))) ∧ Asc (Below w.heap.size w w'))
          case atStart => exact ⟨(L6), (U6), (0), fr, fr, H', ⟨Nat.le_refl _⟩, ⟨by (try simp only [u0]); (try simp only [A0]); (with_reducible repeat (first | apply Kd.R_alloc | apply Kd.R_drewN | apply Kd.R_drew)); exact HO_5.out⟩, ⟨by (try simp only [u0]); (try simp only [A0]); (with_reducible repeat (first | refine Qa7 ?_ _ | refine Qag ?_ | refine Qah ?_ _)); exact n0.out⟩, ⟨bh HB⟩⟩
          case round =>
           clear H'; try clear P7 l9 i9 t9 B9 z9 s9
           obtain ⟨L1, N4, o0, rfl, rfl, HA, s6, HO_5, n0, HB⟩ := hrel; have E0 := (Kd.R_reads' HO_5.out).1; rw [E0] at HO_5
           (try simp only [E0])
           (try simp only [E0] at n0)
           cases gk with
           | zero => exact absurd HA.out (by simp [F0.l3])
           | succ k4 =>
            have H := HA.out; clear HA; simp only [F0.l3] at H; have U7 := am_ H; clear H
            go_upto_region 18 with (fail)
            repeat (go_quiet (fail); go_upto_region 18 with (fail))
            go_cut [57] (fun jB wc => ∃ (kq : Nat) (L5 : Bool), jB = .bool L5 ∧ Asc (F0.j4 kq L1 N4 C0 o0 L5 a0_0 a0_1 l0_2 = some r) ∧ Asc (kq ≤ k4) ∧ Asc (Kd.R Kd.bool 4 wc w.heap.size (fun _ => True) (.slice (some ⟨I0, 0, none⟩) L1.length J4) L1) ∧ Asc (wc.heap[Q3]? = some (.cells #[.int .i64 a0_0, .int .i64 a0_1, (.slice A0_2 l0_2.length c0_2)] 24 (0, 0))) ∧ Asc (Below w.heap.size w wc))
            case first =>
             have H := U7.out; clear U7
             by_cases Y8 : o0 < (l0_2.length : Int)
             ·
              rw [if_pos Y8] at H; have X4 := dT Y8; clear Y8
              (first | rw [X4] | (simp only [Qay, Qa3]; rw [X4]) | skip)
              revert H; refine gi (fun qA H => ?_); revert H; refine gi (fun wA H => ?_); have H' := am_ H; clear H; have _ := bx3 n0; have S8 : 0 ≤ (C0 : Int) := dt; have l8 : C0 < (L1.length : Int) := dt; obtain ⟨C9, P9, U4⟩ := Kd.at_bool (Kd.R_reads' HO_5.out).2.2 C0 S8 l8; obtain rfl : (⟨I0, 0, none⟩ : Addr) = C9 := (by injection P9)
              (first | simp only [add_plain] at U4 | simp only [Qkh] at U4 | simp only [Addr.add, Nat.zero_add] at U4 | skip)
              replace S8 := eq_true S8; replace l8 := eq_true l8; go_wp2; repeat (go_quiet (fail); try go_wp2)
              go_meet
              case rel => exact ⟨_, (Qby false L1 C0), fr, H', ⟨by have := P4.out; have := l5.out; have := m5.out; have := s6.out; first | omega | exact Nat.le_refl _⟩, ⟨by (try simp only [u0]); (try simp only [A0]); (try simp only [E0]); (with_reducible repeat (first | apply Kd.R_alloc | apply Kd.R_drewN | apply Kd.R_drew)); exact HO_5.out⟩, ⟨by (try simp only [u0]); (try simp only [A0]); (try simp only [E0]); (with_reducible repeat (first | refine Qa7 ?_ _ | refine Qag ?_ | refine Qah ?_ _)); exact n0.out⟩, ⟨bh HB⟩⟩
             rw [if_neg Y8] at H; have X4 := dF Y8; clear Y8
             (first | rw [X4] | (simp only [Qay, Qa3]; rw [X4]) | skip)
             have H' := am_ H; clear H; have _ := bx3 n0; go_wp2; repeat (go_quiet (fail); try go_wp2)
             go_meet
             case rel => exact ⟨_, (false), fr, H', ⟨by have := P4.out; have := l5.out; have := m5.out; have := s6.out; first | omega | exact Nat.le_refl _⟩, ⟨by (try simp only [u0]); (try simp only [A0]); (try simp only [E0]); (with_reducible repeat (first | apply Kd.R_alloc | apply Kd.R_drewN | apply Kd.R_drew)); exact HO_5.out⟩, ⟨by (try simp only [u0]); (try simp only [A0]); (try simp only [E0]); (with_reducible repeat (first | refine Qa7 ?_ _ | refine Qag ?_ | refine Qah ?_ _)); exact n0.out⟩, ⟨bh HB⟩⟩
            case rest =>
             clear U7; obtain ⟨kq, L5, rfl, HA, K4, HO_5, n0, HB⟩ := hcut
             cases kq with
             | zero => exact absurd HA.out (by simp [F0.j4])
             | succ C7 =>
              have H := HA.out; clear HA; simp only [F0.j4] at H; replace H := ib H; obtain ⟨rfl, H⟩ | ⟨rfl, H⟩ := H
              ·
               have g8 := am_ H; clear H
               go_upto_region 20 with (fail)
               repeat (go_quiet (fail); go_upto_region 20 with (fail))
               go_cut [81] (fun mB wc => ∃ (kq : Nat) (P5 : Bool), mB = .bool P5 ∧ Asc (F0.j5 kq L1 N4 C0 o0 P5 a0_0 a0_1 l0_2 = some r) ∧ Asc (kq ≤ C7) ∧ Asc (Kd.R Kd.bool 4 wc w.heap.size (fun _ => True) (.slice (some ⟨I0, 0, none⟩) L1.length J4) L1) ∧ Asc (wc.heap[Q3]? = some (.cells #[.int .i64 a0_0, .int .i64 a0_1, (.slice A0_2 l0_2.length c0_2)] 24 (0, 0))) ∧ Asc (Below w.heap.size w wc))
               case first =>
                have H := g8.out; clear g8; revert H; refine gi (fun N7 H => ?_)
                (first | rw [N7] | (simp only [Qay, Qa3]; rw [N7]) | skip)
                revert H; refine gi (fun lA H => ?_); obtain ⟨cA, Z6⟩ : ∃ b_ : Bool, b_ = (Qby false L1 o0) := ⟨_, rfl⟩; replace H : (if cA = true then (F0.j5 C7 L1 N4 C0 o0 true a0_0 a0_1 l0_2) else (if o0 < (l0_2.length : Int) then (if 0 ≤ C0 then (if C0 < (l0_2.length : Int) then (F0.j5 C7 L1 N4 C0 o0 (((Qab l0_2 o0).f1.f1) != (wrap64 (((Qab l0_2 C0).f1.f1) - 1))) a0_0 a0_1 l0_2) else (none)) else (none)) else (none))) = some r := by rw [← Z6] at H; exact H
                have Nbq35 := am_ Z6; clear Z6; replace H := ib H; obtain ⟨rfl, H⟩ | ⟨rfl, H⟩ := H
                ·
                 have H' := am_ H; clear H; have D5 : 0 ≤ (o0 : Int) := dt; have E5 : o0 < (L1.length : Int) := dt; obtain ⟨W6, O8, N0⟩ := Kd.at_bool (Kd.R_reads' HO_5.out).2.2 o0 D5 E5
                 (try rw [← Nbq35.out] at N0)
                 obtain rfl : (⟨I0, 0, none⟩ : Addr) = W6 := (by injection O8)
                 (first | simp only [add_plain] at N0 | simp only [Qkh] at N0 | simp only [Addr.add, Nat.zero_add] at N0 | skip)
                 replace D5 := eq_true D5; replace E5 := eq_true E5; go_wp2; repeat (go_quiet (fail); try go_wp2)
                 go_meet
                 case rel => exact ⟨_, (true), fr, H', ⟨by have := P4.out; have := l5.out; have := m5.out; have := s6.out; have := K4.out; first | omega | exact Nat.le_refl _⟩, ⟨by (try simp only [u0]); (try simp only [A0]); (try simp only [E0]); (with_reducible repeat (first | apply Kd.R_alloc | apply Kd.R_drewN | apply Kd.R_drew)); exact HO_5.out⟩, ⟨by (try simp only [u0]); (try simp only [A0]); (try simp only [E0]); (with_reducible repeat (first | refine Qa7 ?_ _ | refine Qag ?_ | refine Qah ?_ _)); exact n0.out⟩, ⟨bh HB⟩⟩
                revert H; refine gi (fun mA H => ?_); revert H; refine gi (fun rA H => ?_); revert H; refine gi (fun bB H => ?_); have H' := am_ H; clear H; have D5 : 0 ≤ (o0 : Int) := dt; have E5 : o0 < (L1.length : Int) := dt; obtain ⟨W6, O8, N0⟩ := Kd.at_bool (Kd.R_reads' HO_5.out).2.2 o0 D5 E5
                (try rw [← Nbq35.out] at N0)
                obtain rfl : (⟨I0, 0, none⟩ : Addr) = W6 := (by injection O8)
                (first | simp only [add_plain] at N0 | simp only [Qkh] at N0 | simp only [Addr.add, Nat.zero_add] at N0 | skip)
                replace D5 := eq_true D5; replace E5 := eq_true E5; have _ := bx3 n0; have M8 : 0 ≤ (o0 : Int) := dt; have i8 : o0 < (l0_2.length : Int) := dt; obtain ⟨m9, R9, T9, fA, S9, U9, c6, Z5, p6, r6, K6, I6, V5, U5, R5, W5, i6⟩ := Qao U1.out o0 M8 i8; cases U9; replace c6 := ce HB c6; replace Z5 := ce HB Z5; replace p6 := ce HB p6; replace r6 := ce HB r6; replace K6 := ce HB K6; replace I6 := ce HB I6; replace V5 := ce HB V5; have J9 := am_ R5; have K9 := am_ U5; clear R5 U5; have M9 := am_ i6; have I9 := am_ W5; clear i6 W5; replace M8 := eq_true M8; replace i8 := eq_true i8; have I8 : 0 ≤ (C0 : Int) := dt; have J8 : C0 < (l0_2.length : Int) := dt; obtain ⟨k9, V9, Q9, O9, W9, X9, J6, q6, j6, X5, S5, z6, D6, o6, l6, A6, C6⟩ := Qao U1.out C0 I8 J8; obtain rfl : m9 = k9 := (by injection X9); replace J6 := ce HB J6; replace q6 := ce HB q6; replace j6 := ce HB j6; replace X5 := ce HB X5; replace S5 := ce HB S5; replace z6 := ce HB z6; replace D6 := ce HB D6; have E9 := am_ l6; have D9 := am_ o6; clear l6 o6; have L9 := am_ C6; have N9 := am_ A6; clear C6 A6; replace I8 := eq_true I8; replace J8 := eq_true J8; go_wp2; repeat (go_quiet (fail); try go_wp2)
                go_meet
                case rel => exact ⟨_, ((((Qab l0_2 o0).f1.f1) != (wrap64 (((Qab l0_2 C0).f1.f1) - 1)))), fr, H', ⟨by have := P4.out; have := l5.out; have := m5.out; have := s6.out; have := K4.out; first | omega | exact Nat.le_refl _⟩, ⟨by (try simp only [u0]); (try simp only [A0]); (try simp only [E0]); (with_reducible repeat (first | apply Kd.R_alloc | apply Kd.R_drewN | apply Kd.R_drew)); exact HO_5.out⟩, ⟨by (try simp only [u0]); (try simp only [A0]); (try simp only [E0]); (with_reducible repeat (first | refine Qa7 ?_ _ | refine Qag ?_ | refine Qah ?_ _)); exact n0.out⟩, ⟨bh HB⟩⟩
               case rest =>
                clear g8; try clear qB
                obtain ⟨kq, P5, rfl, HA, i5, HO_5, n0, HB⟩ := hcut
                cases kq with
                | zero => exact absurd HA.out (by simp [F0.j5])
                | succ Z7 =>
                 have H := HA.out; clear HA; simp only [F0.j5] at H; replace H := ib H; obtain ⟨rfl, H⟩ | ⟨rfl, H⟩ := H
                 ·
                  have H' := am_ H; clear H; go_wp2; repeat (go_quiet (fail); try go_wp2)
                  (try simp only [← E0])
                  go_roundg Z7
                  case measure => have := P4.out; have := l5.out; have := m5.out; have := s6.out; have := K4.out; have := i5.out; omega
                  case rel => exact ⟨(L1), (N4), (wrap64 (o0 + 1)), fr, fr, H', ⟨by have := P4.out; have := l5.out; have := m5.out; have := s6.out; have := K4.out; have := i5.out; omega⟩, ⟨by (try simp only [u0]); (try simp only [A0]); (try simp only [E0]); (with_reducible repeat (first | apply Kd.R_alloc | apply Kd.R_drewN | apply Kd.R_drew)); exact HO_5.out⟩, ⟨by (try simp only [u0]); (try simp only [A0]); (try simp only [E0]); (with_reducible repeat (first | refine Qa7 ?_ _ | refine Qag ?_ | refine Qah ?_ _)); exact n0.out⟩, ⟨bh HB⟩⟩
                 have H' := am_ H; clear H; go_wp2; repeat (go_quiet (fail); try go_wp2)
                 go_loopg [8, 11] Z7 (fun kq v8 fB w' => ∃ (O4 : List Bool) (Q6 : Bool) (Q0 : Int), v8 = .bool Q6 ∧ fB = .int .i64 Q0 ∧ Asc (F0.l4 kq O4 Q6 C0 o0 Q0 a0_0 a0_1 l0_2 = some r) ∧ Asc (kq ≤ Z7) ∧ Asc (Kd.R Kd.bool 4 w' w.heap.size (fun _ => True) (.slice (some ⟨I0, 0, none⟩) L1.length J4) O4) ∧ Asc (w'.heap[Q3]? = some (.cells #[.int .i64 a0_0, .int .i64 a0_1, (.slice A0_2 l0_2.length c0_2)] 24 (0, 0))) ∧ Asc (Below w.heap.size w w'))
                 case atStart => exact ⟨(L1), (N4), (0), fr, fr, H', ⟨Nat.le_refl _⟩, ⟨by (try simp only [u0]); (try simp only [A0]); (try simp only [E0]); (with_reducible repeat (first | apply Kd.R_alloc | apply Kd.R_drewN | apply Kd.R_drew)); exact HO_5.out⟩, ⟨by (try simp only [u0]); (try simp only [A0]); (try simp only [E0]); (with_reducible repeat (first | refine Qa7 ?_ _ | refine Qag ?_ | refine Qah ?_ _)); exact n0.out⟩, ⟨bh HB⟩⟩
                 case round =>
                  clear H'; try clear rB
                  obtain ⟨O4, Q6, Q0, rfl, rfl, HA, V8, HO_5, n0, HB⟩ := hrel; have Q1 := (Kd.R_reads' HO_5.out).1; rw [Q1] at HO_5
                  (try simp only [Q1])
                  (try simp only [Q1] at n0)
                  cases gk with
                  | zero => exact absurd HA.out (by simp [F0.l4])
                  | succ k7 =>
                   have H := HA.out; clear HA; simp only [F0.l4] at H; revert H; refine gi (fun tA H => ?_); revert H; refine gi (fun sA H => ?_)
                   by_cases X8 : Q0 < (((Qab l0_2 C0).f1.f3).length : Int)
                   ·
                    rw [if_pos X8] at H; have r9 := dT X8; clear X8; revert H; refine gi (fun cB H => ?_); revert H; refine gi (fun kA H => ?_); revert H; refine gi (fun yA H => ?_)
                    by_cases A9 : (Qby ByteArray.empty ((Qab l0_2 C0).f1.f3) Q0).toList = ((Qab l0_2 o0).f0).toList
                    ·
                     rw [if_pos A9] at H; obtain ⟨d9, o9⟩ := et A9; clear A9; revert H; refine gi (fun zA H => ?_); obtain ⟨j7, Y4⟩ : ∃ y_ : List Bool, y_ = (O4.set (o0 : Int).toNat true) := ⟨_, rfl⟩; replace H : (F0.l4 k7 j7 true C0 o0 (wrap64 (Q0 + 1)) a0_0 a0_1 l0_2) = some r := by first | (rw [Y4]; with_reducible exact H) | (have H := (Option.bind_some _ _).symm.trans H; first | (rw [Y4]; with_reducible exact H) | with_reducible exact H) | with_reducible exact H | (rw [Y4]; exact H) | exact H
                     have Y6 := am_ Y4; clear Y4; have H' := am_ H; clear H; have _ := bx3 n0; have M4 : 0 ≤ (C0 : Int) := dt; have L4 : C0 < (l0_2.length : Int) := dt; obtain ⟨Q4, R6, V6, m7, i7, l7, X0, D1, V0, L0, M0, U0, Y0, Z0, P0, O0, C1⟩ := Qao U1.out C0 M4 L4; cases l7; replace X0 := ce HB X0; replace D1 := ce HB D1; replace V0 := ce HB V0; replace L0 := ce HB L0; replace M0 := ce HB M0; replace U0 := ce HB U0; replace Y0 := ce HB Y0; have m6 := am_ P0; have Y5 := am_ Z0; clear P0 Z0; have k6 := am_ C1; have E6 := am_ O0; clear C1 O0; replace M4 := eq_true M4; replace L4 := eq_true L4; have C5 : 0 ≤ (C0 : Int) := dt; have O5 : C0 < (l0_2.length : Int) := dt; obtain ⟨d7, k8, W7, B8, V7, Y7, X1, X3, J2, N1, O1, Y3, I3, C2, m3, S3, Z3⟩ := Qao U1.out C0 C5 O5; obtain rfl : Q4 = d7 := (by injection Y7); replace X1 := ce HB X1; replace X3 := ce HB X3; replace J2 := ce HB J2; replace N1 := ce HB N1; replace O1 := ce HB O1; replace Y3 := ce HB Y3; replace I3 := ce HB I3; have K7 := am_ m3; have o7 := am_ C2; clear m3 C2; have W4 := am_ Z3; have s7 := am_ S3; clear Z3 S3; replace C5 := eq_true C5; replace O5 := eq_true O5; have ea_ := Option.some.inj (L0.symm.trans N1)
                     injection ea_ with ea_ en_ ec_
                     subst ea_; subst ec_; clear en_; have ea_ := Option.some.inj (M0.symm.trans O1)
                     injection ea_ with ea_ en_ ec_
                     subst ea_; subst ec_; clear en_; have s5 : 0 ≤ (Q0 : Int) := dt; have K5 : Q0 < (((Qab l0_2 C0).f1.f3).length : Int) := dt; obtain ⟨x9, N8, D4⟩ := Kd.at_string W4.out Q0 s5 K5; cases N8; replace D4 := ce HB D4; replace s5 := eq_true s5; replace K5 := eq_true K5; have Q5 : 0 ≤ (o0 : Int) := dt; have M5 : o0 < (l0_2.length : Int) := dt; obtain ⟨S6, U8, z8, o8, r8, m8, Y2, V2, U3, u4, N3, s3, s4, L2, m4, C4, L3⟩ := Qao U1.out o0 Q5 M5; obtain rfl : Q4 = S6 := (by injection m8); replace Y2 := ce HB Y2; replace V2 := ce HB V2; replace U3 := ce HB U3; replace u4 := ce HB u4; replace N3 := ce HB N3; replace s3 := ce HB s3; replace s4 := ce HB s4; have D7 := am_ m4; have t7 := am_ L2; clear m4 L2; have z7 := am_ L3; have I7 := am_ C4; clear L3 C4; replace Q5 := eq_true Q5; replace M5 := eq_true M5; have p50 : 0 ≤ (o0 : Int) := dt; have Z8 : (o0 : Int) < ((O4.length : Int) : Int) := dt; obtain ⟨J5, N5⟩ := Kd.R_celln false HO_5.out (o0 : Int) p50 Z8; replace p50 := eq_true p50; replace Z8 := eq_true Z8; have I4 := Kd.R_putg HO_5.out (o0 : Int) true
                     go_wp2_with (first | ((with_reducible refine Qar (t := 4) (p := 113) rfl ?_); (try (rw [Qbw wr]; generalize hq_ : World.drewN wr _ = wr; replace HO_5 := am_ (Kd.R_at hq_ HO_5.out); replace n0 := am_ (Qf3 hq_ n0.out); replace HB := am_ (Qc0 hq_ HB.out); clear hq_; (try (have I4 := Kd.R_putg HO_5.out (o0 : Int) true)); (try (obtain ⟨J5, N5⟩ := Kd.R_celln false HO_5.out (o0 : Int) (of_eq_true p50) (of_eq_true Z8))))); refine se_ 4 113 (wr.setCell ⟨I0, (o0 : Int).toNat, none⟩ (.bool true)) ?_; intro X6 hw; have hg : wr.grownBy X6 (some I0) := (by rw [hw]; exact I4.2); have hp_ : Kd.R Kd.bool 4 X6 w.heap.size (fun _ => True) (.slice (some ⟨I0, 0, none⟩) O4.length J4) j7 := (by rw [hw, Y6.out]; exact I4.1); clear I4; replace n0 := tBg n0 hg (Kd.R_ne HO_5.out n0.out (by decide)); replace HO_5 := am_ hp_; replace HB := am_ ((by rw [hw]; exact Qax (HB.out) M6.out : Below w.heap.size w X6)); clear hg hw hp_))
                     (try simp only [Act.put, List.setIfInBounds_toArray, List.set_cons_zero, List.set_cons_succ])
                     repeat (go_quiet (first | ((with_reducible refine Qar (t := 4) (p := 113) rfl ?_); (try (rw [Qbw wr]; generalize hq_ : World.drewN wr _ = wr; replace HO_5 := am_ (Kd.R_at hq_ HO_5.out); replace n0 := am_ (Qf3 hq_ n0.out); replace HB := am_ (Qc0 hq_ HB.out); clear hq_; (try (have I4 := Kd.R_putg HO_5.out (o0 : Int) true)); (try (obtain ⟨J5, N5⟩ := Kd.R_celln false HO_5.out (o0 : Int) (of_eq_true p50) (of_eq_true Z8))))); refine se_ 4 113 (wr.setCell ⟨I0, (o0 : Int).toNat, none⟩ (.bool true)) ?_; intro X6 hw; have hg : wr.grownBy X6 (some I0) := (by rw [hw]; exact I4.2); have hp_ : Kd.R Kd.bool 4 X6 w.heap.size (fun _ => True) (.slice (some ⟨I0, 0, none⟩) O4.length J4) j7 := (by rw [hw, Y6.out]; exact I4.1); clear I4; replace n0 := tBg n0 hg (Kd.R_ne HO_5.out n0.out (by decide)); replace HO_5 := am_ hp_; replace HB := am_ ((by rw [hw]; exact Qax (HB.out) M6.out : Below w.heap.size w X6)); clear hg hw hp_)); try go_wp2_with (first | ((with_reducible refine Qar (t := 4) (p := 113) rfl ?_); (try (rw [Qbw wr]; generalize hq_ : World.drewN wr _ = wr; replace HO_5 := am_ (Kd.R_at hq_ HO_5.out); replace n0 := am_ (Qf3 hq_ n0.out); replace HB := am_ (Qc0 hq_ HB.out); clear hq_; (try (have I4 := Kd.R_putg HO_5.out (o0 : Int) true)); (try (obtain ⟨J5, N5⟩ := Kd.R_celln false HO_5.out (o0 : Int) (of_eq_true p50) (of_eq_true Z8))))); refine se_ 4 113 (wr.setCell ⟨I0, (o0 : Int).toNat, none⟩ (.bool true)) ?_; intro X6 hw; have hg : wr.grownBy X6 (some I0) := (by rw [hw]; exact I4.2); have hp_ : Kd.R Kd.bool 4 X6 w.heap.size (fun _ => True) (.slice (some ⟨I0, 0, none⟩) O4.length J4) j7 := (by rw [hw, Y6.out]; exact I4.1); clear I4; replace n0 := tBg n0 hg (Kd.R_ne HO_5.out n0.out (by decide)); replace HO_5 := am_ hp_; replace HB := am_ ((by rw [hw]; exact Qax (HB.out) M6.out : Below w.heap.size w X6)); clear hg hw hp_)))
                     (try simp only [← Q1])
                     go_roundg k7
                     case measure => have := P4.out; have := l5.out; have := m5.out; have := s6.out; have := K4.out; have := i5.out; have := V8.out; omega
                     case rel => exact ⟨(j7), (true), (wrap64 (Q0 + 1)), fr, fr, H', ⟨by have := P4.out; have := l5.out; have := m5.out; have := s6.out; have := K4.out; have := i5.out; have := V8.out; omega⟩, ⟨by (try simp only [u0]); (try simp only [A0]); (try simp only [E0]); (try simp only [Q1]); (with_reducible repeat (first | apply Kd.R_alloc | apply Kd.R_drewN | apply Kd.R_drew)); exact HO_5.out⟩, ⟨by (try simp only [u0]); (try simp only [A0]); (try simp only [E0]); (try simp only [Q1]); (with_reducible repeat (first | refine Qa7 ?_ _ | refine Qag ?_ | refine Qah ?_ _)); exact n0.out⟩, ⟨bh HB⟩⟩
                    rw [if_neg A9] at H; obtain ⟨d9, o9⟩ := ef A9; have H' := am_ H; clear H; have _ := bx3 n0; have M4 : 0 ≤ (C0 : Int) := dt; have L4 : C0 < (l0_2.length : Int) := dt; obtain ⟨Q4, R6, V6, m7, i7, l7, X0, D1, V0, L0, M0, U0, Y0, Z0, P0, O0, C1⟩ := Qao U1.out C0 M4 L4; cases l7; replace X0 := ce HB X0; replace D1 := ce HB D1; replace V0 := ce HB V0; replace L0 := ce HB L0; replace M0 := ce HB M0; replace U0 := ce HB U0; replace Y0 := ce HB Y0; have m6 := am_ P0; have Y5 := am_ Z0; clear P0 Z0; have k6 := am_ C1; have E6 := am_ O0; clear C1 O0; replace M4 := eq_true M4; replace L4 := eq_true L4; have C5 : 0 ≤ (C0 : Int) := dt; have O5 : C0 < (l0_2.length : Int) := dt; obtain ⟨d7, k8, W7, B8, V7, Y7, X1, X3, J2, N1, O1, Y3, I3, C2, m3, S3, Z3⟩ := Qao U1.out C0 C5 O5; obtain rfl : Q4 = d7 := (by injection Y7); replace X1 := ce HB X1; replace X3 := ce HB X3; replace J2 := ce HB J2; replace N1 := ce HB N1; replace O1 := ce HB O1; replace Y3 := ce HB Y3; replace I3 := ce HB I3; have K7 := am_ m3; have o7 := am_ C2; clear m3 C2; have W4 := am_ Z3; have s7 := am_ S3; clear Z3 S3; replace C5 := eq_true C5; replace O5 := eq_true O5; have ea_ := Option.some.inj (L0.symm.trans N1)
                    injection ea_ with ea_ en_ ec_
                    subst ea_; subst ec_; clear en_; have ea_ := Option.some.inj (M0.symm.trans O1)
                    injection ea_ with ea_ en_ ec_
                    subst ea_; subst ec_; clear en_; have s5 : 0 ≤ (Q0 : Int) := dt; have K5 : Q0 < (((Qab l0_2 C0).f1.f3).length : Int) := dt; obtain ⟨x9, N8, D4⟩ := Kd.at_string W4.out Q0 s5 K5; cases N8; replace D4 := ce HB D4; replace s5 := eq_true s5; replace K5 := eq_true K5; have Q5 : 0 ≤ (o0 : Int) := dt; have M5 : o0 < (l0_2.length : Int) := dt; obtain ⟨S6, U8, z8, o8, r8, m8, Y2, V2, U3, u4, N3, s3, s4, L2, m4, C4, L3⟩ := Qao U1.out o0 Q5 M5; obtain rfl : Q4 = S6 := (by injection m8); replace Y2 := ce HB Y2; replace V2 := ce HB V2; replace U3 := ce HB U3; replace u4 := ce HB u4; replace N3 := ce HB N3; replace s3 := ce HB s3; replace s4 := ce HB s4; have D7 := am_ m4; have t7 := am_ L2; clear m4 L2; have z7 := am_ L3; have I7 := am_ C4; clear L3 C4; replace Q5 := eq_true Q5; replace M5 := eq_true M5; go_wp2; repeat (go_quiet (fail); try go_wp2)
                    (try simp only [← Q1])
                    go_roundg k7
                    case measure => have := P4.out; have := l5.out; have := m5.out; have := s6.out; have := K4.out; have := i5.out; have := V8.out; omega
                    case rel => exact ⟨(O4), (Q6), (wrap64 (Q0 + 1)), fr, fr, H', ⟨by have := P4.out; have := l5.out; have := m5.out; have := s6.out; have := K4.out; have := i5.out; have := V8.out; omega⟩, ⟨by (try simp only [u0]); (try simp only [A0]); (try simp only [E0]); (try simp only [Q1]); (with_reducible repeat (first | apply Kd.R_alloc | apply Kd.R_drewN | apply Kd.R_drew)); exact HO_5.out⟩, ⟨by (try simp only [u0]); (try simp only [A0]); (try simp only [E0]); (try simp only [Q1]); (with_reducible repeat (first | refine Qa7 ?_ _ | refine Qag ?_ | refine Qah ?_ _)); exact n0.out⟩, ⟨bh HB⟩⟩
                   rw [if_neg X8] at H; have r9 := dF X8; clear X8; have H' := am_ H; clear H; have _ := bx3 n0; have M4 : 0 ≤ (C0 : Int) := dt; have L4 : C0 < (l0_2.length : Int) := dt; obtain ⟨Q4, R6, V6, m7, i7, l7, X0, D1, V0, L0, M0, U0, Y0, Z0, P0, O0, C1⟩ := Qao U1.out C0 M4 L4; cases l7; replace X0 := ce HB X0; replace D1 := ce HB D1; replace V0 := ce HB V0; replace L0 := ce HB L0; replace M0 := ce HB M0; replace U0 := ce HB U0; replace Y0 := ce HB Y0; have m6 := am_ P0; have Y5 := am_ Z0; clear P0 Z0; have k6 := am_ C1; have E6 := am_ O0; clear C1 O0; replace M4 := eq_true M4; replace L4 := eq_true L4; go_wp2; repeat (go_quiet (fail); try go_wp2)
                   (try simp only [← E0, ← Q1])
                   go_roundg k7
                   case measure => have := P4.out; have := l5.out; have := m5.out; have := s6.out; have := K4.out; have := i5.out; have := V8.out; omega
                   case rel => exact ⟨(O4), (Q6), (wrap64 (o0 + 1)), fr, fr, H', ⟨by have := P4.out; have := l5.out; have := m5.out; have := s6.out; have := K4.out; have := i5.out; have := V8.out; omega⟩, ⟨by (try simp only [u0]); (try simp only [A0]); (try simp only [E0]); (try simp only [Q1]); (with_reducible repeat (first | apply Kd.R_alloc | apply Kd.R_drewN | apply Kd.R_drew)); exact HO_5.out⟩, ⟨by (try simp only [u0]); (try simp only [A0]); (try simp only [E0]); (try simp only [Q1]); (with_reducible repeat (first | refine Qa7 ?_ _ | refine Qag ?_ | refine Qah ?_ _)); exact n0.out⟩, ⟨bh HB⟩⟩
              have H' := am_ H; clear H; go_wp2; repeat (go_quiet (fail); try go_wp2)
              (try simp only [← A0, ← E0])
              go_roundg C7
              case measure => have := P4.out; have := l5.out; have := m5.out; have := s6.out; have := K4.out; omega
              case rel => exact ⟨(L1), (N4), (wrap64 (C0 + 1)), fr, fr, H', ⟨by have := P4.out; have := l5.out; have := m5.out; have := s6.out; have := K4.out; omega⟩, ⟨by (try simp only [u0]); (try simp only [A0]); (try simp only [E0]); (with_reducible repeat (first | apply Kd.R_alloc | apply Kd.R_drewN | apply Kd.R_drew)); exact HO_5.out⟩, ⟨by (try simp only [u0]); (try simp only [A0]); (try simp only [E0]); (with_reducible repeat (first | refine Qa7 ?_ _ | refine Qag ?_ | refine Qah ?_ _)); exact n0.out⟩, ⟨bh HB⟩⟩
         rw [if_neg a9] at H; have P7 := dF a9; clear a9; have H' := am_ H; clear H; have _ := bx3 n0; go_wp2; repeat (go_quiet (fail); try go_wp2)
         (try simp only [← u0, ← A0])
         go_roundg k3
         case measure => have := P4.out; have := l5.out; have := m5.out; omega
         case rel => exact ⟨(L6), (U6), fr, H', ⟨by have := P4.out; have := l5.out; have := m5.out; omega⟩, ⟨by (try simp only [u0]); (try simp only [A0]); (with_reducible repeat (first | apply Kd.R_alloc | apply Kd.R_drewN | apply Kd.R_drew)); exact HO_5.out⟩, ⟨by (try simp only [u0]); (try simp only [A0]); (with_reducible repeat (first | refine Qa7 ?_ _ | refine Qag ?_ | refine Qah ?_ _)); exact n0.out⟩, ⟨bh HB⟩⟩
      obtain rfl := Option.some.inj H; go_wp2; repeat (go_quiet (fail); try go_wp2)
      go_ret; exact ⟨_, fe, hR HO_5, bh HB⟩
 rw [if_neg c3] at H; exact absurd H (by simp)
def Fx.l0 : Nat → ByteArray → List Bool → Int → Int → Int → List (S32) → Option (Bool)
 | 0, _, _, _, _, _, _ => none
 | k + 1, x2, x7, x8, u0, o0, n0 => if x8 < (n0.length : Int) then (if 0 ≤ x8 then (if x8 < (x7.length : Int) then (if Qby false x7 x8 = true then (if ((Qab n0 x8).f0).toList = x2.toList then (some true) else (Fx.l0 k x2 x7 (wrap64 (x8 + 1)) u0 o0 n0)) else (Fx.l0 k x2 x7 (wrap64 (x8 + 1)) u0 o0 n0)) else (none)) else (none)) else (some false)
def Fx.f (k : Nat) (a0_0 a0_1 : Int) (l0_2 : List (S32)) (a1 a2 : ByteArray) : Option (Bool) := (F0.f k a0_0 a0_1 l0_2 a1).bind fun n0 => (Fx.l0 k a2 n0 0 a0_0 a0_1 l0_2)
theorem Fx.calls (k : Nat) (a0_0 a0_1 : Int) (A0_2 : Option Addr) (c0_2 : Nat) (l0_2 : List (S32)) (a1 a2 : ByteArray) (r : Bool) (w : World) (hr0_2 : Kd.C k32 w A0_2 l0_2.length l0_2) (hc0_2 : l0_2.length ≤ c0_2) (h : Fx.f k a0_0 a0_1 l0_2 a1 a2 = some r) :
  Calls Tryz.prog 40 #[.agg #[.int .i64 a0_0, .int .i64 a0_1, .slice A0_2 l0_2.length c0_2], .string a1, .string a2] w fun e w' => e = .returned (.bool r) ∧ Below w.heap.size w w' := by
 have J4 := Tryz.underlying24; have L1 := am_ hr0_2; have J2 := am_ hc0_2; clear hr0_2 hc0_2; have HB := am_ (Below.refl w.heap.size w); have H := h; unfold Fx.f at H; clear h; replace H := bi H; obtain ⟨Y0, A4, H⟩ := H; try dsimp only at H
 have H' := am_ H; clear H; go_enter Tryz.func40, Tryz.ntmps40
 go_wp2_with (first | (refine bf_ 3 #[.int .i64 a0_0, .int .i64 a0_1, .slice A0_2 l0_2.length c0_2] 24 HB ?_; intro Y2 hg w5 hb o0 Y3 HB; clear hb hg; obtain ⟨X3, V3, D3, J3, C3, L3⟩ := bx3 o0) | (refine gl_ (some 11) Tryz.func63 #[.agg #[.int .i64 a0_0, .int .i64 a0_1, .slice A0_2 l0_2.length c0_2], .string a1] ?_; (with_reducible refine (F0.calls k a0_0 a0_1 _ _ l0_2 a1 Y0 _ ?m3 ?Q2 A4.out).mono ?_); (case m3 => exact gCB L1 HB); (case Q2 => exact J2.out); rintro e w7 ⟨S3, rfl, k4, hb⟩; refine ⟨_, rfl, ?_⟩; have k3 := am_ (Kd.R_lower k4 (Qac (bh HB))); replace o0 := tBb o0 hb; replace HB := tHb HB hb; (try clear hb k4)))
 go_loopg [8] k (fun kq v8 w' => ∃ (n0 : Int), v8 = .int .i64 n0 ∧ Asc (Fx.l0 kq a2 Y0 n0 a0_0 a0_1 l0_2 = some r) ∧ Asc (kq ≤ k) ∧ Asc (Kd.R Kd.bool 4 w' w.heap.size (fun _ => True) S3 Y0) ∧ Asc (w'.heap[Y2]? = some (.cells #[.int .i64 a0_0, .int .i64 a0_1, (.slice A0_2 l0_2.length c0_2)] 24 (0, 0))) ∧ Asc (Below w.heap.size w w'))
 case atStart => exact ⟨(0), fr, H', ⟨Nat.le_refl _⟩, ⟨hR k3⟩, ⟨gB o0⟩, ⟨bh HB⟩⟩
 case round =>
  clear H'; try clear X3 V3 D3 J3 C3 L3
  obtain ⟨n0, rfl, HA, s3, HO_7, o0, HB⟩ := hrel
  cases gk with
  | zero => exact absurd HA.out (by simp [Fx.l0])
  | succ k1 =>
   have H := HA.out; clear HA; simp only [Fx.l0] at H
   by_cases c8 : n0 < (l0_2.length : Int)
   ·
    rw [if_pos c8] at H; have U3 := dT c8; clear c8; revert H; refine gi (fun E4 H => ?_); revert H; refine gi (fun Z3 H => ?_); obtain ⟨Q3, D1⟩ : ∃ b_ : Bool, b_ = (Qby false Y0 n0) := ⟨_, rfl⟩; replace H : (if Q3 = true then (if ((Qab l0_2 n0).f0).toList = a2.toList then (some true) else (Fx.l0 k1 a2 Y0 (wrap64 (n0 + 1)) a0_0 a0_1 l0_2)) else (Fx.l0 k1 a2 Y0 (wrap64 (n0 + 1)) a0_0 a0_1 l0_2)) = some r := by rw [← D1] at H; exact H
    have Nbq11 := am_ D1; clear D1; replace H := ib H; obtain ⟨rfl, H⟩ | ⟨rfl, H⟩ := H
    ·
     by_cases Z2 : ((Qab l0_2 n0).f0).toList = a2.toList
     ·
      rw [if_pos Z2] at H; obtain ⟨N2, V2⟩ := et Z2; clear Z2; obtain rfl := Option.some.inj H; have _ := bx3 o0; obtain ⟨m4, s4, N3⟩ := Kd.R_slice HO_7.out; subst N3; have X0 : 0 ≤ (n0 : Int) := dt; have V0 : n0 < (Y0.length : Int) := dt; obtain ⟨V1, N1, M0⟩ := Kd.at_bool (Kd.R_reads' HO_7.out).2.2 n0 X0 V0
      (try rw [← Nbq11.out] at M0)
      cases N1; replace X0 := eq_true X0; replace V0 := eq_true V0; have C1 : 0 ≤ (n0 : Int) := dt; have Z0 : n0 < (l0_2.length : Int) := dt; obtain ⟨L2, Y1, D2, C2, Z1, X1, C0, A0, u0, P0, I0, N0, Q0, O0, U0, E0, L0⟩ := Qao L1.out n0 C1 Z0; cases X1; replace C0 := ce HB C0; replace A0 := ce HB A0; replace u0 := ce HB u0; replace P0 := ce HB P0; replace I0 := ce HB I0; replace N0 := ce HB N0; replace Q0 := ce HB Q0; have P1 := am_ U0; have O1 := am_ O0; clear U0 O0; have U1 := am_ L0; have Q1 := am_ E0; clear L0 E0; replace C1 := eq_true C1; replace Z0 := eq_true Z0; go_wp2; go_ret; exact ⟨fe, bh HB⟩
     rw [if_neg Z2] at H; obtain ⟨N2, V2⟩ := ef Z2; have H' := am_ H; clear H; have _ := bx3 o0; obtain ⟨C4, u4, u3⟩ := Kd.R_slice HO_7.out; subst u3; have X0 : 0 ≤ (n0 : Int) := dt; have V0 : n0 < (Y0.length : Int) := dt; obtain ⟨V1, N1, M0⟩ := Kd.at_bool (Kd.R_reads' HO_7.out).2.2 n0 X0 V0
     (try rw [← Nbq11.out] at M0)
     cases N1; replace X0 := eq_true X0; replace V0 := eq_true V0; have C1 : 0 ≤ (n0 : Int) := dt; have Z0 : n0 < (l0_2.length : Int) := dt; obtain ⟨L2, Y1, D2, C2, Z1, X1, C0, A0, u0, P0, I0, N0, Q0, O0, U0, E0, L0⟩ := Qao L1.out n0 C1 Z0; cases X1; replace C0 := ce HB C0; replace A0 := ce HB A0; replace u0 := ce HB u0; replace P0 := ce HB P0; replace I0 := ce HB I0; replace N0 := ce HB N0; replace Q0 := ce HB Q0; have P1 := am_ U0; have O1 := am_ O0; clear U0 O0; have U1 := am_ L0; have Q1 := am_ E0; clear L0 E0; replace C1 := eq_true C1; replace Z0 := eq_true Z0; go_wp2; go_roundg k1
     case measure => have := s3.out; omega
     case rel => exact ⟨(wrap64 (n0 + 1)), fr, H', kS s3, ⟨hR HO_7⟩, ⟨gB o0⟩, ⟨bh HB⟩⟩
    have H' := am_ H; clear H; have _ := bx3 o0; obtain ⟨D4, I4, I3⟩ := Kd.R_slice HO_7.out; subst I3; have X0 : 0 ≤ (n0 : Int) := dt; have V0 : n0 < (Y0.length : Int) := dt; obtain ⟨V1, N1, M0⟩ := Kd.at_bool (Kd.R_reads' HO_7.out).2.2 n0 X0 V0
    (try rw [← Nbq11.out] at M0)
    cases N1; replace X0 := eq_true X0; replace V0 := eq_true V0; go_wp2; go_roundg k1
    case measure => have := s3.out; omega
    case rel => exact ⟨(wrap64 (n0 + 1)), fr, H', kS s3, ⟨hR HO_7⟩, ⟨gB o0⟩, ⟨bh HB⟩⟩
   rw [if_neg c8] at H; have U3 := dF c8; clear c8; obtain rfl := Option.some.inj H; have _ := bx3 o0; go_wp2; go_ret; exact ⟨fe, bh HB⟩
end Go.Proofs.YtopijobdblfhoaaGreat.PTuskChains
