-- written by a program of this session (pp.py), out of the kit's print and this session's contracts
import Derived.Test.YtopijobdblfhoaaGreatPTuskAsksx0
import Derived.Test.YtopijobdblfhoaaGreatPTuskAsksx6
import Derived.Test.YtopijobdblfhoaaGreatPTuskAsksx13
import Derived.Test.YtopijobdblfhoaaGreatPTuskAsksx15
import Derived.Test.YtopijobdblfhoaaGreatVTuskAsksPi
namespace Go.Proofs.YtopijobdblfhoaaGreat.PTuskAsks
open Go.RowKit Go.Proofs.YtopijobdblfhoaaGreatW.PrintWords Go.Proofs.YtopijobdblfhoaaGreatW.PrintLast Go.Proofs.YtopijobdblfhoaaGreatW.PrintMore
set_option linter.unusedVariables false
set_option linter.unusedSimpArgs false

def Fh.j0 : Nat → Bool → Int → Int → Option (Int × Int × Int)
 | 0, _, _, _ => none
 | k + 1, u0, a0, m0 => if u0 = true then (some (0, 0, 1)) else ((Gy.f a0 m0).bind fun o0 => ((Fk.f k o0).bind fun n0 => (some (Int.tmod (wrap64 (a0 * n0)) 10007, Int.tmod (wrap64 ((Int.tmod (wrap64 (10007 - m0)) 10007) * n0)) 10007, 0))))
def Fh.f (k : Nat) (a0_0 : Int) (a0_1 : Int) : Option (Int × Int × Int) := (F1.f a0_0 a0_1).bind fun a0 => (if a0 = true then (if a0_0 = 0 then (Fh.j0 k (a0_1 == 0) a0_0 a0_1) else (Fh.j0 k false a0_0 a0_1)) else (Fh.j0 k true a0_0 a0_1))
theorem Fh.mono_l : ∀ k, (∀ y0 y1 y2, LeO (Fh.j0 k y0 y1 y2) (Fh.j0 (k + 1) y0 y1 y2))
 | 0 => fun _ _ _ r h => by simp [Fh.j0] at h
 | k + 1 => by
  have a0 := Fh.mono_l k
  ·
   intro y0 y1 y2
   unfold Fh.j0
   repeat' first | (with_reducible first | exact a0 _ _ _ | exact Fk.mono _ _ | exact LeO.refl _ | exact LeO.none _ | refine LeO.ite ?_ ?_ | refine LeO.bind ?_ (fun _ => ?_)) | exact a0 _ _ _ | refine LeO.ite ?_ ?_ | refine LeO.bind ?_ (fun _ => ?_)
theorem Fh.mono : ∀ a0 a1 k, LeO (Fh.f k a0 a1) (Fh.f (k + 1) a0 a1) := by
 intro a0 a1 k
 have m0 := Fh.mono_l k
 unfold Fh.f
 repeat' first | (with_reducible first | exact m0 _ _ _ | exact Fk.mono _ _ | exact LeO.refl _ | exact LeO.none _ | refine LeO.ite ?_ ?_ | refine LeO.bind ?_ (fun _ => ?_)) | exact m0 _ _ _ | refine LeO.ite ?_ ?_ | refine LeO.bind ?_ (fun _ => ?_)
set_option maxHeartbeats 8000000 in
set_option maxRecDepth 100000 in
theorem Fh.calls (k : Nat) (a0_0 : Int) (a0_1 : Int) (r1 : Int) (r2 : Int) (r3 : Int) (w : World) (h : Fh.f k a0_0 a0_1 = some (r1, r2, r3)) :
  Calls Tryz.prog 101 #[.agg #[.int .i64 a0_0, .int .i64 a0_1]] w fun e w' => e = .returned (.tuple #[.agg #[.int .i64 r1, .int .i64 r2], .int .i64 r3]) ∧ Below w.heap.size w w' := by
 have V1 := Tryz.underlying28
 have HB := am_ (Below.refl w.heap.size w)
 have H : ((F1.f a0_0 a0_1).bind fun C0 => (if C0 = true then (if a0_0 = 0 then (Fh.j0 k (a0_1 == 0) a0_0 a0_1) else (Fh.j0 k false a0_0 a0_1)) else (Fh.j0 k true a0_0 a0_1))) = some (r1, r2, r3) := h
 clear h
 replace H := Option.bind_eq_some_iff.mp H
 obtain ⟨C0, D1, H⟩ := H
 try dsimp only at H
 have A2 := am_ D1
 clear D1
 have X0 := am_ H
 clear H
 go_enter Tryz.func101, Tryz.ntmps101
 go_upto_region 2 with (first | ((with_reducible refine gd_ 1 ?_); refine be_ 1 #[.int .i64 a0_0, .int .i64 a0_1] 28 ?_; intro E0 hg w4 hbox hb; have a0 := am_ hbox; have O1 := tG HB hg; have Z0 := tG HB hg; replace HB := tHb HB hb; clear hb hbox hg) | ((with_reducible refine gd_ 2 ?_); refine be_ 2 #[.int .i64 0, .int .i64 0] 28 ?_; intro z0 hg w5 hbox hb; have m0 := am_ hbox; have L1 := tG HB hg; have Q1 := tG HB hg; replace HB := tHb HB hb; obtain ⟨n0, A0⟩ := tN a0 hg; replace a0 := tBb a0 hb; clear hb hbox hg; obtain ⟨_, _⟩ := n2 n0; obtain ⟨V0, Y0, U0, W0⟩ := bx2 a0) | ((with_reducible refine gate_callee (f := 77) rfl ?_); refine gl_ (some 7) Tryz.func77 #[.agg #[.int .i64 a0_0, .int .i64 a0_1]] ?_; (with_reducible refine (F1.calls a0_0 a0_1 C0 _ A2.out).mono ?_); rintro e w8 ⟨rfl, hb⟩; refine ⟨_, rfl, ?_⟩; replace a0 := tBb a0 hb; replace m0 := tBb m0 hb; replace HB := tHb HB hb; (try clear hb)))
 (try simp only [Act.put, List.setIfInBounds_toArray, List.set_cons_zero, List.set_cons_succ])
 go_cut [19] (fun Y1 wc => ∃ (kq : Nat) (u0 : Bool), Y1 = .bool u0 ∧ Asc (Fh.j0 kq u0 a0_0 a0_1 = some (r1, r2, r3)) ∧ Asc (kq ≤ k) ∧ Asc (wc.heap[E0]? = some (.cells #[.int .i64 a0_0, .int .i64 a0_1] 28 (0, 0))) ∧ Asc (wc.heap[z0]? = some (.cells #[.int .i64 0, .int .i64 0] 28 (0, 0))) ∧ Asc (Below w.heap.size w wc))
 case first =>
  have H := X0.out
  clear X0
  by_cases c9 : C0 = true
  ·
   subst c9
   rw [if_pos rfl] at H
   by_cases c10 : a0_0 = 0
   ·
    rw [if_pos c10] at H
    have o0 : (a0_0 == 0) = true := beq_iff_eq.mpr c10
    have O0 : (a0_0 != 0) = false := bne_eq_false_iff_eq.mpr c10
    clear c10
    (first | rw [o0] | (simp only [i64_w, i32_w]; rw [o0]) | skip)
    have H' := am_ H
    clear H
    obtain ⟨_, _⟩ := n2 n0
    obtain ⟨i1, P1, N1, C1⟩ := bx2 a0
    go_wp2
    go_meet
    case rel => exact ⟨_, ((a0_1 == 0)), fr, H', ⟨by first | omega | exact Nat.le_refl _⟩, ⟨gB a0⟩, ⟨gB m0⟩, ⟨bh HB⟩⟩
   rw [if_neg c10] at H
   have o0 : (a0_0 == 0) = false := beq_eq_false_iff_ne.mpr c10
   have O0 : (a0_0 != 0) = true := bne_iff_ne.mpr c10
   (first | rw [o0] | (simp only [i64_w, i32_w]; rw [o0]) | skip)
   have H' := am_ H
   clear H
   obtain ⟨_, _⟩ := n2 n0
   obtain ⟨_, _, _, _⟩ := bx2 a0
   go_wp2
   go_meet
   case rel => exact ⟨_, (false), fr, H', ⟨by first | omega | exact Nat.le_refl _⟩, ⟨gB a0⟩, ⟨gB m0⟩, ⟨bh HB⟩⟩
  replace c9 := Bool.eq_false_iff.mpr c9
  subst c9
  rw [if_neg (show ¬ (false = true) by decide)] at H
  have H' := am_ H
  clear H
  go_wp2
  go_meet
  case rel => exact ⟨_, (true), fr, H', ⟨by first | omega | exact Nat.le_refl _⟩, ⟨gB a0⟩, ⟨gB m0⟩, ⟨bh HB⟩⟩
 case rest =>
  clear X0
  try clear V0 Y0 U0 W0
  obtain ⟨kq, u0, rfl, HA, i2, a0, m0, HB⟩ := hcut
  cases kq with
  | zero => exact absurd HA.out (by simp [Fh.j0])
  | succ X1 =>
   have H := HA.out
   clear HA
   simp only [Fh.j0] at H
   by_cases Q0 : u0 = true
   ·
    subst Q0
    rw [if_pos rfl] at H
    simp only [Option.some.injEq, Prod.mk.injEq] at H
    obtain ⟨rfl, rfl, rfl⟩ := H
    obtain ⟨_, _⟩ := n2 A0
    obtain ⟨_, _, _, _⟩ := bx2 m0
    go_wp2
    refine bodyPost_ret (results_ct rfl _ _ z0 28 #[.int .i64 0, .int .i64 0] (0, 0) _ rfl (gP m0 rfl) Tryz.underlying28 rfl (by kernel_rfl)) rfl ?_
    exact ⟨fe, bh HB⟩
   replace Q0 := Bool.eq_false_iff.mpr Q0
   subst Q0
   rw [if_neg (show ¬ (false = true) by decide)] at H
   replace H := Option.bind_eq_some_iff.mp H
   obtain ⟨L0, P0, H⟩ := H
   try dsimp only at H
   have Z1 := am_ P0
   clear P0
   replace H := Option.bind_eq_some_iff.mp H
   obtain ⟨I0, N0, H⟩ := H
   try dsimp only at H
   have U1 := am_ N0
   clear N0
   simp only [Option.some.injEq, Prod.mk.injEq] at H
   obtain ⟨rfl, rfl, rfl⟩ := H
   obtain ⟨_, _⟩ := n2 n0
   obtain ⟨_, _, _, _⟩ := bx2 a0
   go_wp2_with (first | ((with_reducible refine gate_callee (f := 114) rfl ?_); refine gl_ (some 22) Tryz.func114 #[.agg #[.int .i64 a0_0, .int .i64 a0_1]] ?_; (with_reducible refine (Gy.calls a0_0 a0_1 L0 _ Z1.out).mono ?_); rintro e M0 ⟨rfl, hb⟩; refine ⟨_, rfl, ?_⟩; replace a0 := tBb a0 hb; replace m0 := tBb m0 hb; replace HB := tHb HB hb; (try clear hb)) | ((with_reducible refine gate_callee (f := 113) rfl ?_); refine gl_ (some 23) Tryz.func113 #[.int .i64 L0] ?_; (with_reducible refine (Fk.calls X1 L0 I0 _ U1.out).mono ?_); rintro e w' ⟨rfl, ⟨nd, rfl⟩⟩; refine ⟨_, rfl, ?_⟩; (try (rw [drewN_self M0]; generalize hq_ : World.drewN M0 _ = M0; replace a0 : Asc (M0.heap[E0]? = some (.cells #[.int .i64 a0_0, .int .i64 a0_1] 28 (0, 0))) := ⟨by rw [← hq_]; exact (gB a0)⟩; replace m0 : Asc (M0.heap[z0]? = some (.cells #[.int .i64 0, .int .i64 0] 28 (0, 0))) := ⟨by rw [← hq_]; exact (gB m0)⟩; replace HB : Asc (Below w.heap.size w M0) := ⟨by rw [← hq_]; exact (bh HB)⟩; clear hq_)); obtain ⟨_, _, _, _⟩ := bx2 a0; obtain ⟨_, _, _, _⟩ := bx2 m0))
   refine bodyPost_ret (results_ct rfl _ _ z0 28 #[.int .i64 (Int.tmod (wrap64 (a0_0 * I0)) 10007), .int .i64 (Int.tmod (wrap64 ((Int.tmod (wrap64 (10007 - a0_1)) 10007) * I0)) 10007)] (0, 0) _ rfl (gP m0 rfl) Tryz.underlying28 rfl (by kernel_rfl)) rfl ?_
   exact ⟨fe, bh HB⟩

mutual
def Fd.j0 : Nat → List (S76) → Int → Bool → Option (Int × Int × Int)
 | 0, _, _, _ => none
 | k + 1, x0, x1, a0 => if a0 = true then (some (0, 0, 1)) else (Fd.l0 k x0 x1 0 1 0 1 0)
def Fd.l0 : Nat → List (S76) → Int → Int → Int → Int → Int → Int → Option (Int × Int × Int)
 | 0, _, _, _, _, _, _, _ => none
 | k + 1, x0, x1, x9, n0, m0, o0, a0 => if x9 < (x0.length : Int) then (if x9 = x1 then (Fd.l0 k x0 x1 (wrap64 (x9 + 1)) n0 m0 o0 a0) else (if 0 ≤ x9 then ((G5.f n0 m0 ((rd_T76 x0 x9).f0) 0).bind fun A0 => (if 0 ≤ x1 then (if x1 < (x0.length : Int) then ((Gg.f ((rd_T76 x0 x9).f0) 0 ((rd_T76 x0 x1).f0) 0).bind fun u0 => ((G5.f o0 a0 u0.1 u0.2).bind fun z0 => (Fd.l0 k x0 x1 (wrap64 (x9 + 1)) A0.1 A0.2 z0.1 z0.2))) else (none)) else (none))) else (none))) else ((Fh.f k o0 a0).bind fun E0 => ((G5.f n0 m0 E0.1 E0.2.1).bind fun C0 => (some (C0.1, C0.2, 0))))
end
def Fd.f (k : Nat) (l0 : List (S76)) (a1 : Int) : Option (Int × Int × Int) := (F4.f k l0).bind fun a0 => (if a0 = true then (if a1 < 0 then (Fd.j0 k l0 a1 true) else (Fd.j0 k l0 a1 (decide (a1 ≥ (l0.length : Int))))) else (Fd.j0 k l0 a1 true))
def Fd.T10 : Bool × List (List Nat × List Nat) := (true, [([], []), ([], []), ([], []), ([1, 2], [1, 2]), ([3], [3]), ([4], [4]), ([5], [5]), ([0, 6], [0, 6]), ([7, 7, 0, 1, 2, 3, 4, 5, 6, 7], [7])])
def Fd.B10 : List Nat := [0, 0, 0, 6, 14, 30, 62, 127, 255]
theorem Fd.tab10 : rtab .any (opsOf Tryz.f78 10) = Fd.T10 := by kernel_rfl
theorem Fd.bits10 : waitsOk Fd.T10.2 Fd.B10 = true := by kernel_rfl
def Fd.T11 : Bool × List (List Nat × List Nat) := (true, [([], []), ([], []), ([], []), ([1, 2], [1, 2]), ([3], [3]), ([4], [4]), ([5], [5]), ([], []), ([], []), ([7, 8], [7, 8]), ([9], [9]), ([10], [10]), ([11], [11]), ([6, 12], [6, 12]), ([0, 13, 13], [0, 13]), ([14, 14, 0, 1, 2, 3, 4, 5, 6, 7, 8, 9, 10, 11, 12, 13, 14], [14])])
def Fd.B11 : List Nat := [0, 0, 0, 6, 14, 30, 62, 0, 0, 384, 896, 1920, 3968, 8190, 16383, 32767]
theorem Fd.tab11 : rtab .any (opsOf Tryz.f78 11) = Fd.T11 := by kernel_rfl
theorem Fd.bits11 : waitsOk Fd.T11.2 Fd.B11 = true := by kernel_rfl
set_option maxHeartbeats 8000000 in
set_option maxRecDepth 100000 in
theorem Fd.calls (k : Nat) (A0 : Option Addr) (c0 : Nat) (l0 : List (S76)) (a1 : Int) (r1 : Int) (r2 : Int) (r3 : Int) (w : World) (m6 : Kd.C k76 w A0 l0.length l0) (R5 : l0.length ≤ c0) (h : Fd.f k l0 a1 = some (r1, r2, r3)) :
  Calls Tryz.prog 78 #[.slice A0 l0.length c0, .int .i64 a1] w fun e w' => e = .returned (.tuple #[.agg #[.int .i64 r1, .int .i64 r2], .int .i64 r3]) ∧ Below w.heap.size w w' := by
 have A6 := Tryz.underlying28
 have c5 := am_ m6
 have D6 := am_ R5
 clear m6 R5
 have HB := am_ (Below.refl w.heap.size w)
 have H : ((F4.f k l0).bind fun a3 => (if a3 = true then (if a1 < 0 then (Fd.j0 k l0 a1 true) else (Fd.j0 k l0 a1 (decide (a1 ≥ (l0.length : Int))))) else (Fd.j0 k l0 a1 true))) = some (r1, r2, r3) := h
 clear h
 replace H := Option.bind_eq_some_iff.mp H
 obtain ⟨a3, q6, H⟩ := H
 try dsimp only at H
 have A3 := am_ q6
 clear q6
 have K5 := am_ H
 clear H
 go_enter Tryz.func78, Tryz.ntmps78
 go_upto_region 2 with (first | ((with_reducible refine gd_ 4 ?_); (try (refine gate_guard (by rfl) ?_; dsimp only)); refine be_ 4 #[.int .i64 0, .int .i64 0] 28 ?_; intro X1 hg w5 hbox hb; have a0 := am_ hbox; have o6 := tG HB hg; have Y5 := tG HB hg; replace HB := tHb HB hb; clear hb hbox hg) | ((with_reducible refine gate_callee (f := 76) rfl ?_); refine gl_ (some 13) Tryz.func76 #[.slice A0 l0.length c0] ?_; (with_reducible refine (F4.calls k _ _ l0 a3 _ ?K4 ?L4 A3.out).mono ?_); (case K4 => exact gCB c5 HB); (case L4 => exact D6.out); rintro e w' ⟨rfl, ⟨nd, rfl⟩⟩; refine ⟨_, rfl, ?_⟩))
 (try simp only [Act.put, List.setIfInBounds_toArray, List.set_cons_zero, List.set_cons_succ])
 go_cut [25] (fun r6 wc => ∃ (kq : Nat) (i2 : Bool), r6 = .bool i2 ∧ Asc (Fd.j0 kq l0 a1 i2 = some (r1, r2, r3)) ∧ Asc (kq ≤ k) ∧ Asc (wc.heap[X1]? = some (.cells #[.int .i64 0, .int .i64 0] 28 (0, 0))) ∧ Asc (Below w.heap.size w wc))
 case first =>
  have H := K5.out
  clear K5
  by_cases c6 : a3 = true
  ·
   subst c6
   rw [if_pos rfl] at H
   by_cases c7 : a1 < 0
   ·
    rw [if_pos c7] at H
    have V2 : decide (a1 < 0) = true := decide_eq_true c7
    clear c7
    (first | rw [V2] | (simp only [i64_w, i32_w]; rw [V2]) | skip)
    have H' := am_ H
    clear H
    go_wp2
    go_meet
    case rel => exact ⟨_, (true), fr, H', ⟨by first | omega | exact Nat.le_refl _⟩, ⟨gB a0⟩, ⟨bh HB⟩⟩
   rw [if_neg c7] at H
   have V2 : decide (a1 < 0) = false := decide_eq_false c7
   clear c7
   (first | rw [V2] | (simp only [i64_w, i32_w]; rw [V2]) | skip)
   have H' := am_ H
   clear H
   go_wp2
   go_meet
   case rel => exact ⟨_, (decide (a1 ≥ (l0.length : Int))), fr, H', ⟨by first | omega | exact Nat.le_refl _⟩, ⟨gB a0⟩, ⟨bh HB⟩⟩
  replace c6 := Bool.eq_false_iff.mpr c6
  subst c6
  rw [if_neg (show ¬ (false = true) by decide)] at H
  have H' := am_ H
  clear H
  go_wp2
  go_meet
  case rel => exact ⟨_, (true), fr, H', ⟨by first | omega | exact Nat.le_refl _⟩, ⟨gB a0⟩, ⟨bh HB⟩⟩
 case rest =>
  clear K5
  obtain ⟨kq, i2, rfl, HA, b5, a0, HB⟩ := hcut
  cases kq with
  | zero => exact absurd HA.out (by simp [Fd.j0])
  | succ l6 =>
   have H := HA.out
   clear HA
   simp only [Fd.j0] at H
   by_cases c8 : i2 = true
   ·
    subst c8
    rw [if_pos rfl] at H
    simp only [Option.some.injEq, Prod.mk.injEq] at H
    obtain ⟨rfl, rfl, rfl⟩ := H
    obtain ⟨_, _, _, _⟩ := bx2 a0
    go_wp2
    refine bodyPost_ret (results_ct rfl _ _ X1 28 #[.int .i64 0, .int .i64 0] (0, 0) _ rfl (gP a0 rfl) Tryz.underlying28 rfl (by kernel_rfl)) rfl ?_
    exact ⟨fe, bh HB⟩
   replace c8 := Bool.eq_false_iff.mpr c8
   subst c8
   rw [if_neg (show ¬ (false = true) by decide)] at H
   have H' := am_ H
   clear H
   go_wp2_with (first | ((with_reducible refine gd_ 7 ?_); (try (refine gate_guard (by rfl) ?_; dsimp only)); refine be_ 7 #[.int .i64 0, .int .i64 0] 28 ?_; intro E0 hg U6 hbox hb; have m0 := am_ hbox; have a6 := tG HB hg; have Q5 := tG HB hg; replace HB := tHb HB hb; obtain ⟨L1, O0⟩ := tN a0 hg; replace a0 := tBb a0 hb; clear hb hbox hg; obtain ⟨_, _⟩ := n2 O0; obtain ⟨m4, D4, C4, Z3⟩ := bx2 m0) | ((with_reducible refine gd_ 8 ?_); (try (refine gate_guard (by rfl) ?_; dsimp only)); refine be_ 8 #[.int .i64 0, .int .i64 0] 28 ?_; intro D1 hg V6 hbox hb; have n0 := am_ hbox; have S5 := tG HB hg; have k6 := tG HB hg; replace HB := tHb HB hb; obtain ⟨C1, N0⟩ := tN a0 hg; replace a0 := tBb a0 hb; have M0 := am_ ((by rw [hg]; exact Nat.ne_of_lt (blk_lt (g := E0) (o := .cells #[.int .i64 1, .int .i64 0] 28 (0, 0)) (gP m0 rfl)) : E0 ≠ D1)); have I0 := am_ ((by rw [hg]; exact Nat.ne_of_gt (blk_lt (g := E0) (o := .cells #[.int .i64 1, .int .i64 0] 28 (0, 0)) (gP m0 rfl)) : D1 ≠ E0)); replace m0 := am_ (blk_below (g := E0) (o := .cells #[.int .i64 1, .int .i64 0] 28 (0, 0)) (gP m0 rfl) hb); clear hb hbox hg; obtain ⟨_, _⟩ := n2 N0; obtain ⟨_, _⟩ := n2 I0; obtain ⟨E4, M4, I4, k4⟩ := bx2 n0))
   go_loopg [9] l6 (fun kq v9 w' => ∃ (L0 : Int) (C0 : Int) (z0 : Int) (u0 : Int) (o0 : Int), v9 = .int .i64 L0 ∧ Asc (Fd.l0 kq l0 a1 L0 C0 z0 u0 o0 = some (r1, r2, r3)) ∧ Asc (kq ≤ l6) ∧ Asc (w'.heap[X1]? = some (.cells #[.int .i64 0, .int .i64 0] 28 (0, 0))) ∧ Asc (w'.heap[E0]? = some (.cells #[.int .i64 C0, .int .i64 z0] 28 (0, 0))) ∧ Asc (w'.heap[D1]? = some (.cells #[.int .i64 u0, .int .i64 o0] 28 (0, 0))) ∧ Asc (Below w.heap.size w w'))
   case atStart => exact ⟨(0), (1), (0), (1), (0), fr, H', ⟨Nat.le_refl _⟩, ⟨gB a0⟩, ⟨gB m0⟩, ⟨gP n0 rfl⟩, ⟨bh HB⟩⟩
   case round =>
    clear H'
    try clear c8 m4 D4 E4 M4 C4 Z3 I4 k4
    obtain ⟨L0, C0, z0, u0, o0, rfl, HA, i5, a0, m0, n0, HB⟩ := hrel
    cases gk with
    | zero => exact absurd HA.out (by simp [Fd.l0])
    | succ k2 =>
     have H := HA.out
     clear HA
     simp only [Fd.l0] at H
     by_cases Q3 : L0 < (l0.length : Int)
     ·
      rw [if_pos Q3] at H
      have J4 : decide (L0 < (l0.length : Int)) = true := decide_eq_true Q3
      clear Q3
      by_cases I3 : L0 = a1
      ·
       rw [if_pos I3] at H
       have O4 : (L0 == a1) = true := beq_iff_eq.mpr I3
       have s4 : (L0 != a1) = false := bne_eq_false_iff_eq.mpr I3
       clear I3
       have H' := am_ H
       clear H
       go_wp2
       go_roundg k2
       case measure => have := b5.out; have := i5.out; omega
       case rel => exact ⟨(wrap64 (L0 + 1)), (C0), (z0), (u0), (o0), fr, H', ⟨by have := b5.out; have := i5.out; omega⟩, ⟨gB a0⟩, ⟨gB m0⟩, ⟨gB n0⟩, ⟨bh HB⟩⟩
      rw [if_neg I3] at H
      have O4 : (L0 == a1) = false := beq_eq_false_iff_ne.mpr I3
      have s4 : (L0 != a1) = true := bne_iff_ne.mpr I3
      revert H
      refine gi (fun V5 H => ?_)
      replace H := Option.bind_eq_some_iff.mp H
      obtain ⟨⟨Y1, Z1⟩, P4, H⟩ := H
      try dsimp only at H
      have M6 := am_ P4
      clear P4
      revert H
      refine gi (fun b6 H => ?_)
      revert H
      refine gi (fun P5 H => ?_)
      replace H := Option.bind_eq_some_iff.mp H
      obtain ⟨⟨C3, m3⟩, l4, H⟩ := H
      try dsimp only at H
      have C6 := am_ l4
      clear l4
      replace H := Option.bind_eq_some_iff.mp H
      obtain ⟨⟨u4, j4⟩, Y3, H⟩ := H
      try dsimp only at H
      have K6 := am_ Y3
      clear Y3
      have H' := am_ H
      clear H
      try go_wp2
      replace a0 := am_ (blk_drew a0.out)
      replace m0 := am_ (blk_drew m0.out)
      replace n0 := am_ (blk_drew n0.out)
      replace HB := am_ (below_drew1 HB.out)
      have l3 : 0 ≤ (L0 : Int) := dt
      have u3 : L0 < (l0.length : Int) := dt
      obtain ⟨i3, E5, W0, P0, Q0⟩ := at_T76 c5.out L0 l3 u3
      have J2 := Q0
      have D2 := P0
      have C2 := W0
      cases E5
      replace W0 := ce HB W0
      replace P0 := ce HB P0
      replace Q0 := ce HB Q0
      replace l3 := eq_true l3
      replace u3 := eq_true u3
      refine st_ 9 [8] (k2_ m0 (cd_ (ce HB (by first | exact C2)) (cd_ (ce HB (by first | exact D2)) (cd_ (ce HB (by first | exact J2)) ct)))) (fun hHeld => ?_); refine with_tabW Fd.tab10 Fd.bits10 (fun HT_ HW_ => ?_)
      generalize wr.drew = P6 at a0 m0 n0 HB W0 P0 Q0 hHeld ⊢
      refine pu_ 1 (some 39) 2 HT_ (h := ?_)
      refine pu_ 2 (some 40) 6 HT_ (h := ?_)
      refine pu_ 3 (some 41) 14 HT_ (h := ?_)
      refine pu_ 4 (some 42) 30 HT_ (h := ?_)
      refine tk_ 0 (some 38) 31 HT_ HW_ hHeld (h := ?_)
      refine tk_ 5 (some 43) 63 HT_ HW_ hHeld (h := ?_)
      refine pu_ 6 (some 44) 127 HT_ (h := ?_)
      refine one_ (i := 7) (N := some 45) #[true, true, true, true, true, true, true, true, false] rfl rfl (one_of HT_.out (by kernel_rfl)) (by decide) (fun K hK => ?_)
      refine goes_ Tryz.func80 (by kernel_rfl) rfl #[.agg #[.int .i64 C0, .int .i64 z0], .agg #[.int .i64 ((rd_T76 l0 L0).f0), .int .i64 0]] (by rfl) rfl rfl (by (try simp only [List.map_toArray, List.map_cons, List.map_nil]); first | done | rfl | (simp only [List.length_drop, List.length_take]; rfl)) ?_
      with_reducible refine (G5.calls C0 z0 ((rd_T76 l0 L0).f0) 0 Y1 Z1 _ M6.out).mono ?_
      rintro e D3 ⟨rfl, hb⟩
      refine ⟨_, rfl, ?_⟩
      replace a0 := tBb a0 hb
      replace m0 := tBb m0 hb
      replace n0 := tBb n0 hb
      replace HB := tHb HB hb
      (try clear hb)
      (try clear hb2)
      (try clear hk)
      (try clear hi)
      refine hK.out _ _ (m2_ m0 (m0_ (ce HB (by first | exact C2)) (m0_ (ce HB (by first | exact D2)) (m0_ (ce HB (by first | exact J2)) ct)))) (fun hHeld => ?_)
      clear hK K
      refine norm_ (a' := ?_) ?_ ?_
      rotate_left
      ·
       show Act.put _ (some 45) _ = _
       simp only [Act.put, List.setIfInBounds_toArray, List.set_cons_zero, List.set_cons_succ, i64_w, i32_w]
       rfl
      refine last_ (i := 8) (N := none) #[true, true, true, true, true, true, true, true, true] rfl rfl (one_of HT_.out (by kernel_rfl)) (by decide) (fun K hK => ?_)
      have J6 : D3.cell? ⟨E0, 0, none⟩ = some (.int .i64 C0) := (blk_cell m0.out 0).trans rfl
      have j6 := blk_frozen m0.out 0
      have U4 := L1.out
      have A5 := I0.out
      have s5 := O0.out
      have m5 := M0.out
      have z6 : D3.cell? ⟨E0, 1, none⟩ = some (.int .i64 z0) := (blk_cell m0.out 1).trans rfl
      have U5 := blk_frozen m0.out 1
      have S4 := L1.out
      have X4 := I0.out
      have V4 := O0.out
      have Z4 := M0.out
      refine skip_ (w1 := ?_) (by rfl) rfl ?_ ?_
      rotate_left
      ·
       go_simp
       rfl
      refine hK.out _ _ ?_
      clear hK K
      refine done_ (done_of HT_.out (by kernel_rfl)) ?_
      have N5 : Asc (((D3.setCell ⟨E0, 0, none⟩ (.int .i64 Y1)).setCell ⟨E0, 1, none⟩ (.int .i64 Z1)).heap[X1]? = some (.cells #[.int .i64 0, .int .i64 0] 28 (0, 0))) := ⟨gB a0⟩
      have L5 : Asc (((D3.setCell ⟨E0, 0, none⟩ (.int .i64 Y1)).setCell ⟨E0, 1, none⟩ (.int .i64 Z1)).heap[E0]? = some (.cells #[.int .i64 Y1, .int .i64 Z1] 28 (0, 0))) := ⟨gP m0 rfl⟩
      have I5 : Asc (((D3.setCell ⟨E0, 0, none⟩ (.int .i64 Y1)).setCell ⟨E0, 1, none⟩ (.int .i64 Z1)).heap[D1]? = some (.cells #[.int .i64 u0, .int .i64 o0] 28 (0, 0))) := ⟨gB n0⟩
      have O5 : Asc (Below w.heap.size w ((D3.setCell ⟨E0, 0, none⟩ (.int .i64 Y1)).setCell ⟨E0, 1, none⟩ (.int .i64 Z1))) := ⟨bh HB⟩
      (try clear a0)
      (try clear m0)
      (try clear n0)
      (try clear HB)
      generalize ((D3.setCell ⟨E0, 0, none⟩ (.int .i64 Y1)).setCell ⟨E0, 1, none⟩ (.int .i64 Z1)) = L6 at N5 L5 I5 O5 ⊢
      have a0 := N5
      have m0 := L5
      have n0 := I5
      have HB := O5
      clear N5 L5 I5 O5
      try go_wp2
      replace a0 := am_ (blk_drew a0.out)
      replace m0 := am_ (blk_drew m0.out)
      replace n0 := am_ (blk_drew n0.out)
      replace HB := am_ (below_drew1 HB.out)
      have L3 : 0 ≤ (L0 : Int) := dt
      have k3 : L0 < (l0.length : Int) := dt
      obtain ⟨R4, M5, Y0, X0, V0⟩ := at_T76 c5.out L0 L3 k3
      have U1 := V0
      have P1 := X0
      have Q1 := Y0
      obtain rfl : i3 = R4 := (by injection M5)
      replace Y0 := ce HB Y0
      replace X0 := ce HB X0
      replace V0 := ce HB V0
      replace L3 := eq_true L3
      replace k3 := eq_true k3
      have J3 : 0 ≤ (a1 : Int) := dt
      have N3 : a1 < (l0.length : Int) := dt
      obtain ⟨Q4, J5, i1, U0, Z0⟩ := at_T76 c5.out a1 J3 N3
      have V1 := Z0
      have O1 := U0
      have N1 := i1
      obtain rfl : i3 = Q4 := (by injection J5)
      replace i1 := ce HB i1
      replace U0 := ce HB U0
      replace Z0 := ce HB Z0
      replace J3 := eq_true J3
      replace N3 := eq_true N3
      refine st_ 16 [15] (k2_ n0 (cd_ (ce HB (by first | exact Q1)) (cd_ (ce HB (by first | exact P1)) (cd_ (ce HB (by first | exact U1)) (cd_ (ce HB (by first | exact N1)) (cd_ (ce HB (by first | exact O1)) (cd_ (ce HB (by first | exact V1)) ct))))))) (fun hHeld => ?_); refine with_tabW Fd.tab11 Fd.bits11 (fun HT_ HW_ => ?_)
      generalize L6.drew = O6 at a0 m0 n0 HB Y0 X0 V0 i1 U0 Z0 hHeld ⊢
      refine pu_ 1 (some 47) 2 HT_ (h := ?_)
      refine pu_ 2 (some 48) 6 HT_ (h := ?_)
      refine pu_ 3 (some 49) 14 HT_ (h := ?_)
      refine pu_ 4 (some 50) 30 HT_ (h := ?_)
      refine pu_ 7 (some 53) 158 HT_ (h := ?_)
      refine pu_ 8 (some 54) 414 HT_ (h := ?_)
      refine pu_ 9 (some 55) 926 HT_ (h := ?_)
      refine pu_ 10 (some 56) 1950 HT_ (h := ?_)
      refine tk_ 0 (some 46) 1951 HT_ HW_ hHeld (h := ?_)
      refine tk_ 5 (some 51) 1983 HT_ HW_ hHeld (h := ?_)
      refine pu_ 6 (some 52) 2047 HT_ (h := ?_)
      refine tk_ 11 (some 57) 4095 HT_ HW_ hHeld (h := ?_)
      refine pu_ 12 (some 58) 8191 HT_ (h := ?_)
      refine one_ (i := 13) (N := some 59) #[true, true, true, true, true, true, true, true, true, true, true, true, true, true, false, false] rfl rfl (one_of HT_.out (by kernel_rfl)) (by decide) (fun K hK => ?_)
      refine goes_ Tryz.func100 (by kernel_rfl) rfl #[.agg #[.int .i64 ((rd_T76 l0 L0).f0), .int .i64 0], .agg #[.int .i64 ((rd_T76 l0 a1).f0), .int .i64 0]] (by rfl) rfl rfl (by (try simp only [List.map_toArray, List.map_cons, List.map_nil]); first | done | rfl | (simp only [List.length_drop, List.length_take]; rfl)) ?_
      with_reducible refine (Gg.calls ((rd_T76 l0 L0).f0) 0 ((rd_T76 l0 a1).f0) 0 C3 m3 _ C6.out).mono ?_
      rintro e S6 ⟨rfl, hb⟩
      refine ⟨_, rfl, ?_⟩
      replace a0 := tBb a0 hb
      replace m0 := tBb m0 hb
      replace n0 := tBb n0 hb
      replace HB := tHb HB hb
      (try clear hb)
      (try clear hb2)
      (try clear hk)
      (try clear hi)
      refine hK.out _ _ (m2_ n0 (m0_ (ce HB (by first | exact Q1)) (m0_ (ce HB (by first | exact P1)) (m0_ (ce HB (by first | exact U1)) (m0_ (ce HB (by first | exact N1)) (m0_ (ce HB (by first | exact O1)) (m0_ (ce HB (by first | exact V1)) ct))))))) (fun hHeld => ?_)
      clear hK K
      refine norm_ (a' := ?_) ?_ ?_
      rotate_left
      ·
       show Act.put _ (some 59) _ = _
       simp only [Act.put, List.setIfInBounds_toArray, List.set_cons_zero, List.set_cons_succ, i64_w, i32_w]
       rfl
      refine one_ (i := 14) (N := some 60) #[true, true, true, true, true, true, true, true, true, true, true, true, true, true, true, false] rfl rfl (one_of HT_.out (by kernel_rfl)) (by decide) (fun K hK => ?_)
      refine goes_ Tryz.func80 (by kernel_rfl) rfl #[.agg #[.int .i64 u0, .int .i64 o0], .agg #[.int .i64 C3, .int .i64 m3]] (by rfl) rfl rfl (by (try simp only [List.map_toArray, List.map_cons, List.map_nil]); first | done | rfl | (simp only [List.length_drop, List.length_take]; rfl)) ?_
      with_reducible refine (G5.calls u0 o0 C3 m3 u4 j4 _ K6.out).mono ?_
      rintro e W5 ⟨rfl, hb⟩
      refine ⟨_, rfl, ?_⟩
      replace a0 := tBb a0 hb
      replace m0 := tBb m0 hb
      replace n0 := tBb n0 hb
      replace HB := tHb HB hb
      (try clear hb)
      (try clear hb2)
      (try clear hk)
      (try clear hi)
      refine hK.out _ _ (m2_ n0 (m0_ (ce HB (by first | exact Q1)) (m0_ (ce HB (by first | exact P1)) (m0_ (ce HB (by first | exact U1)) (m0_ (ce HB (by first | exact N1)) (m0_ (ce HB (by first | exact O1)) (m0_ (ce HB (by first | exact V1)) ct))))))) (fun hHeld => ?_)
      clear hK K
      refine norm_ (a' := ?_) ?_ ?_
      rotate_left
      ·
       show Act.put _ (some 60) _ = _
       simp only [Act.put, List.setIfInBounds_toArray, List.set_cons_zero, List.set_cons_succ, i64_w, i32_w]
       rfl
      refine last_ (i := 15) (N := none) #[true, true, true, true, true, true, true, true, true, true, true, true, true, true, true, true] rfl rfl (one_of HT_.out (by kernel_rfl)) (by decide) (fun K hK => ?_)
      have N6 : W5.cell? ⟨D1, 0, none⟩ = some (.int .i64 u0) := (blk_cell n0.out 0).trans rfl
      have i6 := blk_frozen n0.out 0
      have a5 := C1.out
      have p5 := M0.out
      have Y4 := N0.out
      have W4 := I0.out
      have s6 : W5.cell? ⟨D1, 1, none⟩ = some (.int .i64 o0) := (blk_cell n0.out 1).trans rfl
      have Z5 := blk_frozen n0.out 1
      have k5 := C1.out
      have l5 := M0.out
      have C5 := N0.out
      have j5 := I0.out
      refine skip_ (w1 := ?_) (by rfl) rfl ?_ ?_
      rotate_left
      ·
       go_simp
       rfl
      refine hK.out _ _ ?_
      clear hK K
      refine done_ (done_of HT_.out (by kernel_rfl)) ?_
      try go_wp2
      go_roundg k2
      case measure => have := b5.out; have := i5.out; omega
      case rel => exact ⟨(wrap64 (L0 + 1)), (Y1), (Z1), (u4), (j4), fr, H', ⟨by have := b5.out; have := i5.out; omega⟩, ⟨gB a0⟩, ⟨gB m0⟩, ⟨gP n0 rfl⟩, ⟨bh HB⟩⟩
     rw [if_neg Q3] at H
     have J4 : decide (L0 < (l0.length : Int)) = false := decide_eq_false Q3
     clear Q3
     replace H := Option.bind_eq_some_iff.mp H
     obtain ⟨⟨Z2, b3, D5⟩, i4, H⟩ := H
     try dsimp only at H
     have E6 := am_ i4
     clear i4
     replace H := Option.bind_eq_some_iff.mp H
     obtain ⟨⟨W3, X3⟩, a4, H⟩ := H
     try dsimp only at H
     have I6 := am_ a4
     clear a4
     simp only [Option.some.injEq, Prod.mk.injEq] at H
     obtain ⟨rfl, rfl, rfl⟩ := H
     obtain ⟨_, _⟩ := n2 N0
     obtain ⟨_, _⟩ := n2 I0
     obtain ⟨_, _, _, _⟩ := bx2 n0
     go_wp2_with (first | ((with_reducible refine gate_callee (f := 101) rfl ?_); refine gl_ (some 63) Tryz.func101 #[.agg #[.int .i64 u0, .int .i64 o0]] ?_; (with_reducible refine (Fh.calls k2 u0 o0 Z2 b3 D5 _ E6.out).mono ?_); rintro e W6 ⟨rfl, hb⟩; refine ⟨_, rfl, ?_⟩; replace a0 := tBb a0 hb; replace m0 := tBb m0 hb; replace n0 := tBb n0 hb; replace HB := tHb HB hb; (try clear hb)) | ((with_reducible refine gd_ 10 ?_); (try (refine gate_guard (by rfl) ?_; dsimp only)); refine be_ 10 #[.int .i64 0, .int .i64 0] 28 ?_; intro N4 hg Q6 hbox hb; have Y2 := am_ hbox; have X5 := tG HB hg; have p6 := tG HB hg; replace HB := tHb HB hb; obtain ⟨U3, Q2⟩ := tN a0 hg; replace a0 := tBb a0 hb; obtain ⟨V3, L2⟩ := tN m0 hg; replace m0 := tBb m0 hb; obtain ⟨S3, N2⟩ := tN n0 hg; replace n0 := tBb n0 hb; clear hb hbox hg; obtain ⟨_, _⟩ := n2 Q2; obtain ⟨_, _⟩ := n2 L2; obtain ⟨_, _⟩ := n2 N2; obtain ⟨_, _, _, _⟩ := bx2 Y2; obtain ⟨_, _⟩ := n2 O0; obtain ⟨_, _, _, _⟩ := bx2 m0) | ((with_reducible refine gate_callee (f := 80) rfl ?_); refine gl_ (some 68) Tryz.func80 #[.agg #[.int .i64 C0, .int .i64 z0], .agg #[.int .i64 Z2, .int .i64 b3]] ?_; (with_reducible refine (G5.calls C0 z0 Z2 b3 W3 X3 _ I6.out).mono ?_); rintro e R6 ⟨rfl, hb⟩; refine ⟨_, rfl, ?_⟩; replace a0 := tBb a0 hb; replace m0 := tBb m0 hb; replace n0 := tBb n0 hb; replace Y2 := am_ (blk_below (g := N4) (o := .cells #[.int .i64 Z2, .int .i64 b3] 28 (0, 0)) (gP Y2 rfl) hb); replace HB := tHb HB hb; (try clear hb); obtain ⟨_, _, _, _⟩ := bx2 a0))
     refine bodyPost_ret (results_ct rfl _ _ X1 28 #[.int .i64 W3, .int .i64 X3] (0, 0) _ rfl (gP a0 rfl) Tryz.underlying28 rfl (by kernel_rfl)) rfl ?_
     exact ⟨fe, bh HB⟩

end Go.Proofs.YtopijobdblfhoaaGreat.PTuskAsks
