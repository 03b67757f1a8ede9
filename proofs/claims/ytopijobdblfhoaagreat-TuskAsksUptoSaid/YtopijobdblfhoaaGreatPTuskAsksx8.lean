-- written by a program of this session (pp.py), out of the kit's print and this session's contracts
import Derived.Test.YtopijobdblfhoaaGreatPTuskAsksx0
import Derived.Test.YtopijobdblfhoaaGreatPTuskAsksx6
import Derived.Test.YtopijobdblfhoaaGreatPTuskAsksx7
import Derived.Test.YtopijobdblfhoaaGreatVTuskAsksPi
namespace Go.Proofs.YtopijobdblfhoaaGreat.PTuskAsks
open Go.RowKit Go.Proofs.YtopijobdblfhoaaGreatW.PrintWords Go.Proofs.YtopijobdblfhoaaGreatW.PrintLast Go.Proofs.YtopijobdblfhoaaGreatW.PrintMore
set_option linter.unusedVariables false
set_option linter.unusedSimpArgs false

mutual
def F0.j0 : Nat → Int → Bool → Int → Int → List (S107) → List ByteArray → Int → Int → Option (Bool)
 | 0, _, _, _, _, _, _, _, _ => none
 | k + 1, x1, A0, n0, a0, m0, o0, u0, z0 => if A0 = true then (none) else (F0.l0 k x1 0 n0 a0 m0 o0 u0 z0)
def F0.l0 : Nat → Int → Int → Int → Int → List (S107) → List ByteArray → Int → Int → Option (Bool)
 | 0, _, _, _, _, _, _, _, _ => none
 | k + 1, x1, x6, o0, a0, m0, n0, u0, z0 => if x6 < (m0.length : Int) then (none) else (if a0 = 1 then (F0.j2 k x1 (decide ((n0.length : Int) > 0)) o0 a0 m0 n0 u0 z0) else (F0.j2 k x1 false o0 a0 m0 n0 u0 z0))
def F0.j2 : Nat → Int → Bool → Int → Int → List (S107) → List ByteArray → Int → Int → Option (Bool)
 | 0, _, _, _, _, _, _, _, _ => none
 | k + 1, x1, C0, o0, m0, n0, a0, u0, z0 => if C0 = true then (none) else (if m0 > 1 then ((H3.f x1).bind fun A0 => (if (a0.length : Int) < A0 then (none) else (F0.j3 k (decide ((a0.length : Int) > x1)) o0 m0 n0 a0 u0 z0))) else (F0.j3 k false o0 m0 n0 a0 u0 z0))
def F0.j3 : Nat → Bool → Int → Int → List (S107) → List ByteArray → Int → Int → Option (Bool)
 | 0, _, _, _, _, _, _, _ => none
 | k + 1, A0, n0, a0, m0, o0, u0, z0 => if A0 = true then (none) else (F0.l1 k 0 n0 a0 m0 o0 u0 z0)
def F0.l1 : Nat → Int → Int → Int → List (S107) → List ByteArray → Int → Int → Option (Bool)
 | 0, _, _, _, _, _, _, _ => none
 | k + 1, x8, z0, o0, u0, a0, m0, n0 => if x8 < (a0.length : Int) then (if 0 ≤ x8 then (if ((rdOf ByteArray.empty a0 x8).size : Int) = 32 then (if x8 > 0 then (if 0 ≤ (wrap64 (x8 - 1)) then (if (wrap64 (x8 - 1)) < (a0.length : Int) then ((F7.f k (rdOf ByteArray.empty a0 (wrap64 (x8 - 1))) (rdOf ByteArray.empty a0 x8)).bind fun E0 => (if E0 = true then (F0.l1 k (wrap64 (x8 + 1)) z0 o0 u0 a0 m0 n0) else (none))) else (none)) else (none)) else (F0.l1 k (wrap64 (x8 + 1)) z0 o0 u0 a0 m0 n0)) else (none)) else (none)) else ((F1.f m0 n0).bind fun A0 => ((Gi.f o0).bind fun C0 => (if A0 = true then (if C0 = true then (some true) else (if m0 = 0 then (some (n0 == 0)) else (none))) else (none))))
end
def F0.f (k : Nat) (a0_0 : Int) (a0_1 : Int) (l0_2 : List (S107)) (a0 : List ByteArray) (n0 : Int) (o0 : Int) (a1 : Int) : Option (Bool) := (Fm.f a1).bind fun m0 => (if m0 = true then (if a0_0 < 1 then (none) else (if a0_0 > a1 then (none) else (if a0_1 < 1 then (none) else (if a0_1 > 1048576 then (none) else (F0.j0 k a1 (decide ((l0_2.length : Int) > 4)) a0_0 a0_1 l0_2 a0 n0 o0))))) else (none))
theorem F0.mono_l : ∀ k, (∀ y0 y1 y2 y3 y4 y5 y6 y7, LeO (F0.j0 k y0 y1 y2 y3 y4 y5 y6 y7) (F0.j0 (k + 1) y0 y1 y2 y3 y4 y5 y6 y7)) ∧ (∀ y0 y1 y2 y3 y4 y5 y6 y7, LeO (F0.l0 k y0 y1 y2 y3 y4 y5 y6 y7) (F0.l0 (k + 1) y0 y1 y2 y3 y4 y5 y6 y7)) ∧ (∀ y0 y1 y2 y3 y4 y5 y6 y7, LeO (F0.j2 k y0 y1 y2 y3 y4 y5 y6 y7) (F0.j2 (k + 1) y0 y1 y2 y3 y4 y5 y6 y7)) ∧ (∀ y0 y1 y2 y3 y4 y5 y6, LeO (F0.j3 k y0 y1 y2 y3 y4 y5 y6) (F0.j3 (k + 1) y0 y1 y2 y3 y4 y5 y6)) ∧ (∀ y0 y1 y2 y3 y4 y5 y6, LeO (F0.l1 k y0 y1 y2 y3 y4 y5 y6) (F0.l1 (k + 1) y0 y1 y2 y3 y4 y5 y6))
 | 0 => ⟨fun _ _ _ _ _ _ _ _ r h => by simp [F0.j0] at h, fun _ _ _ _ _ _ _ _ r h => by simp [F0.l0] at h, fun _ _ _ _ _ _ _ _ r h => by simp [F0.j2] at h, fun _ _ _ _ _ _ _ r h => by simp [F0.j3] at h, fun _ _ _ _ _ _ _ r h => by simp [F0.l1] at h⟩
 | k + 1 => by
  obtain ⟨n0, m0, o0, u0, a0⟩ := F0.mono_l k
  refine ⟨?_, ?_, ?_, ?_, ?_⟩
  ·
   intro y0 y1 y2 y3 y4 y5 y6 y7
   unfold F0.j0
   repeat' first | (with_reducible first | exact n0 _ _ _ _ _ _ _ _ | exact m0 _ _ _ _ _ _ _ _ | exact o0 _ _ _ _ _ _ _ _ | exact u0 _ _ _ _ _ _ _ | exact a0 _ _ _ _ _ _ _ | exact F7.mono _ _ _ | exact G3.mono _ _ _ _ | exact LeO.refl _ | exact LeO.none _ | refine LeO.ite ?_ ?_ | refine LeO.bind ?_ (fun _ => ?_)) | exact n0 _ _ _ _ _ _ _ _ | exact m0 _ _ _ _ _ _ _ _ | exact o0 _ _ _ _ _ _ _ _ | exact u0 _ _ _ _ _ _ _ | exact a0 _ _ _ _ _ _ _ | refine LeO.ite ?_ ?_ | refine LeO.bind ?_ (fun _ => ?_)
  ·
   intro y0 y1 y2 y3 y4 y5 y6 y7
   unfold F0.l0
   repeat' first | (with_reducible first | exact n0 _ _ _ _ _ _ _ _ | exact m0 _ _ _ _ _ _ _ _ | exact o0 _ _ _ _ _ _ _ _ | exact u0 _ _ _ _ _ _ _ | exact a0 _ _ _ _ _ _ _ | exact F7.mono _ _ _ | exact G3.mono _ _ _ _ | exact LeO.refl _ | exact LeO.none _ | refine LeO.ite ?_ ?_ | refine LeO.bind ?_ (fun _ => ?_)) | exact n0 _ _ _ _ _ _ _ _ | exact m0 _ _ _ _ _ _ _ _ | exact o0 _ _ _ _ _ _ _ _ | exact u0 _ _ _ _ _ _ _ | exact a0 _ _ _ _ _ _ _ | refine LeO.ite ?_ ?_ | refine LeO.bind ?_ (fun _ => ?_)
  ·
   intro y0 y1 y2 y3 y4 y5 y6 y7
   unfold F0.j2
   repeat' first | (with_reducible first | exact n0 _ _ _ _ _ _ _ _ | exact m0 _ _ _ _ _ _ _ _ | exact o0 _ _ _ _ _ _ _ _ | exact u0 _ _ _ _ _ _ _ | exact a0 _ _ _ _ _ _ _ | exact F7.mono _ _ _ | exact G3.mono _ _ _ _ | exact LeO.refl _ | exact LeO.none _ | refine LeO.ite ?_ ?_ | refine LeO.bind ?_ (fun _ => ?_)) | exact n0 _ _ _ _ _ _ _ _ | exact m0 _ _ _ _ _ _ _ _ | exact o0 _ _ _ _ _ _ _ _ | exact u0 _ _ _ _ _ _ _ | exact a0 _ _ _ _ _ _ _ | refine LeO.ite ?_ ?_ | refine LeO.bind ?_ (fun _ => ?_)
  ·
   intro y0 y1 y2 y3 y4 y5 y6
   unfold F0.j3
   repeat' first | (with_reducible first | exact n0 _ _ _ _ _ _ _ _ | exact m0 _ _ _ _ _ _ _ _ | exact o0 _ _ _ _ _ _ _ _ | exact u0 _ _ _ _ _ _ _ | exact a0 _ _ _ _ _ _ _ | exact F7.mono _ _ _ | exact G3.mono _ _ _ _ | exact LeO.refl _ | exact LeO.none _ | refine LeO.ite ?_ ?_ | refine LeO.bind ?_ (fun _ => ?_)) | exact n0 _ _ _ _ _ _ _ _ | exact m0 _ _ _ _ _ _ _ _ | exact o0 _ _ _ _ _ _ _ _ | exact u0 _ _ _ _ _ _ _ | exact a0 _ _ _ _ _ _ _ | refine LeO.ite ?_ ?_ | refine LeO.bind ?_ (fun _ => ?_)
  intro y0 y1 y2 y3 y4 y5 y6
  unfold F0.l1
  repeat' first | (with_reducible first | exact n0 _ _ _ _ _ _ _ _ | exact m0 _ _ _ _ _ _ _ _ | exact o0 _ _ _ _ _ _ _ _ | exact u0 _ _ _ _ _ _ _ | exact a0 _ _ _ _ _ _ _ | exact F7.mono _ _ _ | exact G3.mono _ _ _ _ | exact LeO.refl _ | exact LeO.none _ | refine LeO.ite ?_ ?_ | refine LeO.bind ?_ (fun _ => ?_)) | exact n0 _ _ _ _ _ _ _ _ | exact m0 _ _ _ _ _ _ _ _ | exact o0 _ _ _ _ _ _ _ _ | exact u0 _ _ _ _ _ _ _ | exact a0 _ _ _ _ _ _ _ | refine LeO.ite ?_ ?_ | refine LeO.bind ?_ (fun _ => ?_)
theorem F0.mono : ∀ a0 a1 a2 a3 a4 a5 a6 k, LeO (F0.f k a0 a1 a2 a3 a4 a5 a6) (F0.f (k + 1) a0 a1 a2 a3 a4 a5 a6) := by
 intro a0 a1 a2 a3 a4 a5 a6 k
 obtain ⟨o0, n0, u0, z0, m0⟩ := F0.mono_l k
 unfold F0.f
 repeat' first | (with_reducible first | exact o0 _ _ _ _ _ _ _ _ | exact n0 _ _ _ _ _ _ _ _ | exact u0 _ _ _ _ _ _ _ _ | exact z0 _ _ _ _ _ _ _ | exact m0 _ _ _ _ _ _ _ | exact F7.mono _ _ _ | exact G3.mono _ _ _ _ | exact LeO.refl _ | exact LeO.none _ | refine LeO.ite ?_ ?_ | refine LeO.bind ?_ (fun _ => ?_)) | exact o0 _ _ _ _ _ _ _ _ | exact n0 _ _ _ _ _ _ _ _ | exact u0 _ _ _ _ _ _ _ _ | exact z0 _ _ _ _ _ _ _ | exact m0 _ _ _ _ _ _ _ | refine LeO.ite ?_ ?_ | refine LeO.bind ?_ (fun _ => ?_)
set_option maxHeartbeats 8000000 in
set_option maxRecDepth 100000 in
theorem F0.calls (k : Nat) (a0_0 : Int) (a0_1 : Int) (A0_2 : Option Addr) (c0_2 : Nat) (l0_2 : List (S107)) (E0 : Option Addr) (I0 : Nat) (m0 : List ByteArray) (o0 : Int) (u0 : Int) (a1 : Int) (r : Bool) (w : World) (hr0_2 : Kd.C k107 w A0_2 l0_2.length l0_2) (hc0_2 : l0_2.length ≤ c0_2) (X1 : Kd.C Kd.string w E0 m0.length m0) (U1 : m0.length ≤ I0) (h : F0.f k a0_0 a0_1 l0_2 m0 o0 u0 a1 = some r) :
  Calls Tryz.prog 88 #[.agg #[.int .i64 a0_0, .int .i64 a0_1, .slice A0_2 l0_2.length c0_2, .slice E0 m0.length I0, .int .i64 o0, .int .i64 u0], .int .i64 a1] w fun e w' => e = .returned (.bool r) ∧ Below w.heap.size w w' := by
 have P5 := Tryz.underlying30
 have j5 := Tryz.underlying107
 have L5 := Tryz.underlying28
 have J5 := am_ hr0_2
 have Y4 := am_ hc0_2
 clear hr0_2 hc0_2
 have W0 := am_ X1
 have p5 := am_ U1
 clear X1 U1
 have HB := am_ (Below.refl w.heap.size w)
 have H : ((Fm.f a1).bind fun Y0 => (if Y0 = true then (if a0_0 < 1 then (none) else (if a0_0 > a1 then (none) else (if a0_1 < 1 then (none) else (if a0_1 > 1048576 then (none) else (F0.j0 k a1 (decide ((l0_2.length : Int) > 4)) a0_0 a0_1 l0_2 m0 o0 u0))))) else (none))) = some r := h
 clear h
 replace H := Option.bind_eq_some_iff.mp H
 obtain ⟨Y0, K5, H⟩ := H
 try dsimp only at H
 have A3 := am_ K5
 clear K5
 have X4 := am_ H
 clear H
 go_enter Tryz.func88, Tryz.ntmps88
 go_upto_region 2 with (first | ((with_reducible refine gd_ 2 ?_); (try (refine gate_guard (by rfl) ?_; dsimp only)); refine be_ 2 #[.int .i64 a0_0, .int .i64 a0_1, .slice A0_2 l0_2.length c0_2, .slice E0 m0.length I0, .int .i64 o0, .int .i64 u0] 30 ?_; intro A0 hg w5 hbox hb; have a0 := am_ hbox; have O1 := tG HB hg; have P1 := tG HB hg; replace HB := tHb HB hb; clear hb hbox hg) | (go_at_call 54; (with_reducible refine (Fm.calls a1 Y0 _ A3.out).mono ?_); rintro e w' ⟨rfl, ⟨nd, rfl⟩⟩; (try first | exact ⟨rfl, _, World.drewN_drewN _ _ _⟩ | exact ⟨rfl, _, Eq.trans (World.drewN_drewN _ _ _) (congrArg (World.drewN _) (Nat.add_assoc _ _ _))⟩)))
 (try simp only [Act.put, List.setIfInBounds_toArray, List.set_cons_zero, List.set_cons_succ])
 repeat (go_quiet (first | ((with_reducible refine gd_ 2 ?_); (try (refine gate_guard (by rfl) ?_; dsimp only)); refine be_ 2 #[.int .i64 a0_0, .int .i64 a0_1, .slice A0_2 l0_2.length c0_2, .slice E0 m0.length I0, .int .i64 o0, .int .i64 u0] 30 ?_; intro A0 hg w5 hbox hb; have a0 := am_ hbox; have O1 := tG HB hg; have P1 := tG HB hg; replace HB := tHb HB hb; clear hb hbox hg) | (go_at_call 54; (with_reducible refine (Fm.calls a1 Y0 _ A3.out).mono ?_); rintro e w' ⟨rfl, ⟨nd, rfl⟩⟩; (try first | exact ⟨rfl, _, World.drewN_drewN _ _ _⟩ | exact ⟨rfl, _, Eq.trans (World.drewN_drewN _ _ _) (congrArg (World.drewN _) (Nat.add_assoc _ _ _))⟩))); go_upto_region 2 with (first | ((with_reducible refine gd_ 2 ?_); (try (refine gate_guard (by rfl) ?_; dsimp only)); refine be_ 2 #[.int .i64 a0_0, .int .i64 a0_1, .slice A0_2 l0_2.length c0_2, .slice E0 m0.length I0, .int .i64 o0, .int .i64 u0] 30 ?_; intro A0 hg w5 hbox hb; have a0 := am_ hbox; have O1 := tG HB hg; have P1 := tG HB hg; replace HB := tHb HB hb; clear hb hbox hg) | (go_at_call 54; (with_reducible refine (Fm.calls a1 Y0 _ A3.out).mono ?_); rintro e w' ⟨rfl, ⟨nd, rfl⟩⟩; (try first | exact ⟨rfl, _, World.drewN_drewN _ _ _⟩ | exact ⟨rfl, _, Eq.trans (World.drewN_drewN _ _ _) (congrArg (World.drewN _) (Nat.add_assoc _ _ _))⟩))))
 (try simp only [Act.put, List.setIfInBounds_toArray, List.set_cons_zero, List.set_cons_succ])
 go_cut [41] (fun Q5 wc => ∃ (kq : Nat) (U0 : Bool), Q5 = .bool U0 ∧ Asc (F0.j0 kq a1 U0 a0_0 a0_1 l0_2 m0 o0 u0 = some r) ∧ Asc (kq ≤ k) ∧ Asc (wc.heap[A0]? = some (.cells #[.int .i64 a0_0, .int .i64 a0_1, (.slice A0_2 l0_2.length c0_2), (.slice E0 m0.length I0), .int .i64 o0, .int .i64 u0] 30 (0, 0))) ∧ Asc (Below w.heap.size w wc))
 case first =>
  have H := X4.out
  clear X4
  by_cases c6 : Y0 = true
  ·
   subst c6
   rw [if_pos rfl] at H
   by_cases c7 : a0_0 < 1
   ·
    rw [if_pos c7] at H
    exact absurd H (by simp)
   rw [if_neg c7] at H
   have Y3 : decide (a0_0 < 1) = false := decide_eq_false c7
   clear c7
   (first | rw [Y3] | (simp only [i64_w, i32_w]; rw [Y3]) | skip)
   by_cases c9 : a0_0 > a1
   ·
    rw [if_pos c9] at H
    exact absurd H (by simp)
   rw [if_neg c9] at H
   have N5 : decide (a1 < a0_0) = false := decide_eq_false c9
   clear c9
   by_cases L4 : a0_1 < 1
   ·
    rw [if_pos L4] at H
    exact absurd H (by simp)
   rw [if_neg L4] at H
   have I5 : decide (a0_1 < 1) = false := decide_eq_false L4
   clear L4
   by_cases M4 : a0_1 > 1048576
   ·
    rw [if_pos M4] at H
    exact absurd H (by simp)
   rw [if_neg M4] at H
   have l5 : decide (1048576 < a0_1) = false := decide_eq_false M4
   clear M4
   have H' := am_ H
   clear H
   obtain ⟨_, _, _, _, _, _, _, _, _, _, _, _⟩ := bx6 a0
   go_wp2
   repeat (go_quiet (fail); try go_wp2)
   go_meet
   case rel => exact ⟨_, (decide ((l0_2.length : Int) > 4)), fr, H', ⟨by first | omega | exact Nat.le_refl _⟩, ⟨gB a0⟩, ⟨bh HB⟩⟩
  replace c6 := Bool.eq_false_iff.mpr c6
  subst c6
  have H1 : (none) = some r := by rw [if_neg (show ¬ (false = true) by decide)] at H; exact H
  exact absurd H1 (by simp)
 case rest =>
  clear X4
  obtain ⟨kq, U0, rfl, HA, Q1, a0, HB⟩ := hcut
  cases kq with
  | zero => exact absurd HA.out (by simp [F0.j0])
  | succ C5 =>
   have H := HA.out
   clear HA
   simp only [F0.j0] at H
   by_cases k4 : U0 = true
   ·
    subst k4
    have H1 : (none) = some r := by rw [if_pos rfl] at H; exact H
    exact absurd H1 (by simp)
   replace k4 := Bool.eq_false_iff.mpr k4
   subst k4
   rw [if_neg (show ¬ (false = true) by decide)] at H
   have H' := am_ H
   clear H
   go_wp2
   repeat (go_quiet (fail); try go_wp2)
   go_loopg [6] C5 (fun kq v6 w' => ∃ (L1 : Int), v6 = .int .i64 L1 ∧ Asc (F0.l0 kq a1 L1 a0_0 a0_1 l0_2 m0 o0 u0 = some r) ∧ Asc (kq ≤ C5) ∧ Asc (w'.heap[A0]? = some (.cells #[.int .i64 a0_0, .int .i64 a0_1, (.slice A0_2 l0_2.length c0_2), (.slice E0 m0.length I0), .int .i64 o0, .int .i64 u0] 30 (0, 0))) ∧ Asc (Below w.heap.size w w'))
   case atStart => exact ⟨(0), fr, H', ⟨Nat.le_refl _⟩, ⟨gB a0⟩, ⟨bh HB⟩⟩
   case round =>
    clear H'
    try clear k4
    obtain ⟨L1, rfl, HA, V1, a0, HB⟩ := hrel
    cases gk with
    | zero => exact absurd HA.out (by simp [F0.l0])
    | succ k2 =>
     have H := HA.out
     clear HA
     simp only [F0.l0] at H
     by_cases D4 : L1 < (l0_2.length : Int)
     ·
      rw [if_pos D4] at H
      exact absurd H (by simp)
     rw [if_neg D4] at H
     have N3 : decide (L1 < (l0_2.length : Int)) = false := decide_eq_false D4
     clear D4
     have N2 := am_ H
     clear H
     obtain ⟨m3, Q3, X3, W3, m4, C3, k3, U3, Z3, j4, a4, u3⟩ := bx6 a0
     go_upto_region 10 with (fail)
     repeat (go_quiet (fail); go_upto_region 10 with (fail))
     go_cut [75] (fun M5 wc => ∃ (kq : Nat) (L0 : Bool), M5 = .bool L0 ∧ Asc (F0.j2 kq a1 L0 a0_0 a0_1 l0_2 m0 o0 u0 = some r) ∧ Asc (kq ≤ k2) ∧ Asc (wc.heap[A0]? = some (.cells #[.int .i64 a0_0, .int .i64 a0_1, (.slice A0_2 l0_2.length c0_2), (.slice E0 m0.length I0), .int .i64 o0, .int .i64 u0] 30 (0, 0))) ∧ Asc (Below w.heap.size w wc))
     case first =>
      have H := N2.out
      clear N2
      by_cases C2 : a0_1 = 1
      ·
       rw [if_pos C2] at H
       have N0 : (a0_1 == 1) = true := beq_iff_eq.mpr C2
       have i4 : (a0_1 != 1) = false := bne_eq_false_iff_eq.mpr C2
       clear C2
       (first | rw [N0] | (simp only [i64_w, i32_w]; rw [N0]) | skip)
       have H' := am_ H
       clear H
       obtain ⟨_, _, _, _, _, _, _, _, _, _, _, _⟩ := bx6 a0
       go_wp2
       repeat (go_quiet (fail); try go_wp2)
       go_meet
       case rel => exact ⟨_, (decide ((m0.length : Int) > 0)), fr, H', ⟨by have := Q1.out; have := V1.out; first | omega | exact Nat.le_refl _⟩, ⟨gB a0⟩, ⟨bh HB⟩⟩
      rw [if_neg C2] at H
      have N0 : (a0_1 == 1) = false := beq_eq_false_iff_ne.mpr C2
      have i4 : (a0_1 != 1) = true := bne_iff_ne.mpr C2
      (first | rw [N0] | (simp only [i64_w, i32_w]; rw [N0]) | skip)
      have H' := am_ H
      clear H
      obtain ⟨_, _, _, _, _, _, _, _, _, _, _, _⟩ := bx6 a0
      go_wp2
      repeat (go_quiet (fail); try go_wp2)
      go_meet
      case rel => exact ⟨_, (false), fr, H', ⟨by have := Q1.out; have := V1.out; first | omega | exact Nat.le_refl _⟩, ⟨gB a0⟩, ⟨bh HB⟩⟩
     case rest =>
      clear N2
      try clear N3 m3 Q3 X3 W3 m4 C3 k3 U3 Z3 j4 a4 u3
      obtain ⟨kq, L0, rfl, HA, Z0, a0, HB⟩ := hcut
      cases kq with
      | zero => exact absurd HA.out (by simp [F0.j2])
      | succ R4 =>
       have H := HA.out
       clear HA
       simp only [F0.j2] at H
       by_cases u4 : L0 = true
       ·
        subst u4
        have H1 : (none) = some r := by rw [if_pos rfl] at H; exact H
        exact absurd H1 (by simp)
       replace u4 := Bool.eq_false_iff.mpr u4
       subst u4
       rw [if_neg (show ¬ (false = true) by decide)] at H
       have L2 := am_ H
       clear H
       go_upto_region 12 with (fail)
       repeat (go_quiet (fail); go_upto_region 12 with (fail))
       go_cut [93] (fun O5 wc => ∃ (kq : Nat) (M0 : Bool), O5 = .bool M0 ∧ Asc (F0.j3 kq M0 a0_0 a0_1 l0_2 m0 o0 u0 = some r) ∧ Asc (kq ≤ R4) ∧ Asc (wc.heap[A0]? = some (.cells #[.int .i64 a0_0, .int .i64 a0_1, (.slice A0_2 l0_2.length c0_2), (.slice E0 m0.length I0), .int .i64 o0, .int .i64 u0] 30 (0, 0))) ∧ Asc (Below w.heap.size w wc))
       case first =>
        have H := L2.out
        clear L2
        by_cases Y2 : a0_1 > 1
        ·
         rw [if_pos Y2] at H
         have O0 : decide (1 < a0_1) = true := decide_eq_true Y2
         clear Y2
         (first | rw [O0] | (simp only [i64_w, i32_w]; rw [O0]) | skip)
         replace H := Option.bind_eq_some_iff.mp H
         obtain ⟨D1, l4, H⟩ := H
         try dsimp only at H
         have U4 := am_ l4
         clear l4
         by_cases E4 : (m0.length : Int) < D1
         ·
          rw [if_pos E4] at H
          exact absurd H (by simp)
         rw [if_neg E4] at H
         have Z4 : decide ((m0.length : Int) < D1) = false := decide_eq_false E4
         clear E4
         have H' := am_ H
         clear H
         obtain ⟨_, _, _, _, _, _, _, _, _, _, _, _⟩ := bx6 a0
         go_wp2_with (first | (go_at_call 104; (with_reducible refine (H3.calls a1 D1 _ U4.out).mono ?_); rintro e w' ⟨rfl, ⟨nd, rfl⟩⟩; (try first | exact ⟨rfl, _, World.drewN_drewN _ _ _⟩ | exact ⟨rfl, _, Eq.trans (World.drewN_drewN _ _ _) (congrArg (World.drewN _) (Nat.add_assoc _ _ _))⟩)))
         (try simp only [Act.put, List.setIfInBounds_toArray, List.set_cons_zero, List.set_cons_succ])
         repeat (go_quiet (first | (go_at_call 104; (with_reducible refine (H3.calls a1 D1 _ U4.out).mono ?_); rintro e w' ⟨rfl, ⟨nd, rfl⟩⟩; (try first | exact ⟨rfl, _, World.drewN_drewN _ _ _⟩ | exact ⟨rfl, _, Eq.trans (World.drewN_drewN _ _ _) (congrArg (World.drewN _) (Nat.add_assoc _ _ _))⟩))); try go_wp2_with (first | (go_at_call 104; (with_reducible refine (H3.calls a1 D1 _ U4.out).mono ?_); rintro e w' ⟨rfl, ⟨nd, rfl⟩⟩; (try first | exact ⟨rfl, _, World.drewN_drewN _ _ _⟩ | exact ⟨rfl, _, Eq.trans (World.drewN_drewN _ _ _) (congrArg (World.drewN _) (Nat.add_assoc _ _ _))⟩))))
         go_meet
         case rel => exact ⟨_, (decide ((m0.length : Int) > a1)), fr, H', ⟨by have := Q1.out; have := V1.out; have := Z0.out; first | omega | exact Nat.le_refl _⟩, ⟨gB a0⟩, ⟨bh HB⟩⟩
        rw [if_neg Y2] at H
        have O0 : decide (1 < a0_1) = false := decide_eq_false Y2
        clear Y2
        (first | rw [O0] | (simp only [i64_w, i32_w]; rw [O0]) | skip)
        have H' := am_ H
        clear H
        obtain ⟨_, _, _, _, _, _, _, _, _, _, _, _⟩ := bx6 a0
        go_wp2
        repeat (go_quiet (fail); try go_wp2)
        go_meet
        case rel => exact ⟨_, (false), fr, H', ⟨by have := Q1.out; have := V1.out; have := Z0.out; first | omega | exact Nat.le_refl _⟩, ⟨gB a0⟩, ⟨bh HB⟩⟩
       case rest =>
        clear L2
        try clear u4
        obtain ⟨kq, M0, rfl, HA, N1, a0, HB⟩ := hcut
        cases kq with
        | zero => exact absurd HA.out (by simp [F0.j3])
        | succ s4 =>
         have H := HA.out
         clear HA
         simp only [F0.j3] at H
         by_cases D3 : M0 = true
         ·
          subst D3
          have H1 : (none) = some r := by rw [if_pos rfl] at H; exact H
          exact absurd H1 (by simp)
         replace D3 := Bool.eq_false_iff.mpr D3
         subst D3
         rw [if_neg (show ¬ (false = true) by decide)] at H
         have H' := am_ H
         clear H
         go_wp2
         repeat (go_quiet (fail); try go_wp2)
         go_loopg [8] s4 (fun kq v8 w' => ∃ (n0 : Int), v8 = .int .i64 n0 ∧ Asc (F0.l1 kq n0 a0_0 a0_1 l0_2 m0 o0 u0 = some r) ∧ Asc (kq ≤ s4) ∧ Asc (w'.heap[A0]? = some (.cells #[.int .i64 a0_0, .int .i64 a0_1, (.slice A0_2 l0_2.length c0_2), (.slice E0 m0.length I0), .int .i64 o0, .int .i64 u0] 30 (0, 0))) ∧ Asc (Below w.heap.size w w'))
         case atStart => exact ⟨(0), fr, H', ⟨Nat.le_refl _⟩, ⟨gB a0⟩, ⟨bh HB⟩⟩
         case round =>
          clear H'
          try clear D3
          obtain ⟨n0, rfl, HA, I4, a0, HB⟩ := hrel
          cases gk with
          | zero => exact absurd HA.out (by simp [F0.l1])
          | succ k5 =>
           have H := HA.out
           clear HA
           simp only [F0.l1] at H
           by_cases b3 : n0 < (m0.length : Int)
           ·
            rw [if_pos b3] at H
            have l3 : decide (n0 < (m0.length : Int)) = true := decide_eq_true b3
            clear b3
            revert H
            refine gi (fun a5 H => ?_)
            revert H
            refine gi' (fun P4 H => ?_)
            have s5 : (((rdOf ByteArray.empty m0 n0).size : Int) == 32) = true := beq_iff_eq.mpr P4
            have E5 : (((rdOf ByteArray.empty m0 n0).size : Int) != 32) = false := bne_eq_false_iff_eq.mpr P4
            clear P4
            by_cases Z2 : n0 > 0
            ·
             rw [if_pos Z2] at H
             have V3 : decide (0 < n0) = true := decide_eq_true Z2
             clear Z2
             obtain ⟨C0, C1⟩ : ∃ j_ : Int, (wrap64 (n0 - 1)) = j_ := ⟨_, rfl⟩
             replace H : (if 0 ≤ (C0) then (if (C0) < (m0.length : Int) then ((F7.f k5 (rdOf ByteArray.empty m0 (C0)) (rdOf ByteArray.empty m0 n0)).bind fun Z1 => (if Z1 = true then (F0.l1 k5 (wrap64 (n0 + 1)) a0_0 a0_1 l0_2 m0 o0 u0) else (none))) else (none)) else (none)) = some r := by first | (rw [C1] at H; exact H) | (simp only [C1] at H ⊢; exact H)
             have hji48w : (IntKind.i64.wrap (n0 - 1)) = C0 := (i64_w _).trans C1
             revert H
             refine gi (fun i5 H => ?_)
             revert H
             refine gi (fun D5 H => ?_)
             replace H := Option.bind_eq_some_iff.mp H
             obtain ⟨Z1, J3, H⟩ := H
             try dsimp only at H
             have N4 := am_ J3
             clear J3
             by_cases K4 : Z1 = true
             ·
              subst K4
              rw [if_pos rfl] at H
              have H' := am_ H
              clear H
              obtain ⟨_, _, _, _, _, _, _, _, _, _, _, _⟩ := bx6 a0
              have P0 : 0 ≤ (n0 : Int) := dt
              have Q0 : n0 < (m0.length : Int) := dt
              obtain ⟨i1, i2, z0⟩ := Kd.at_string W0.out n0 P0 Q0
              cases i2
              replace z0 := ce HB z0
              replace P0 := eq_true P0
              replace Q0 := eq_true Q0
              have Q2 : 0 ≤ ((C0) : Int) := dt
              have J2 : (C0) < (m0.length : Int) := dt
              obtain ⟨I3, V4, V0⟩ := Kd.at_string W0.out (C0) Q2 J2
              obtain rfl : i1 = I3 := (by injection V4)
              replace V0 := ce HB V0
              replace Q2 := eq_true Q2
              replace J2 := eq_true J2
              have D2 : 0 ≤ (n0 : Int) := dt
              have Y1 : n0 < (m0.length : Int) := dt
              obtain ⟨S3, Q4, X0⟩ := Kd.at_string W0.out n0 D2 Y1
              obtain rfl : i1 = S3 := (by injection Q4)
              replace X0 := ce HB X0
              replace D2 := eq_true D2
              replace Y1 := eq_true Y1
              go_wp2_with (first | (go_at_call 105; (with_reducible refine (F7.calls k5 (rdOf ByteArray.empty m0 (C0)) (rdOf ByteArray.empty m0 n0) true _ N4.out).mono ?_); rintro e w' ⟨rfl, ⟨nd, rfl⟩⟩; (try first | exact ⟨rfl, _, World.drewN_drewN _ _ _⟩ | exact ⟨rfl, _, Eq.trans (World.drewN_drewN _ _ _) (congrArg (World.drewN _) (Nat.add_assoc _ _ _))⟩)))
              (try simp only [Act.put, List.setIfInBounds_toArray, List.set_cons_zero, List.set_cons_succ])
              repeat (go_quiet (first | (go_at_call 105; (with_reducible refine (F7.calls k5 (rdOf ByteArray.empty m0 (C0)) (rdOf ByteArray.empty m0 n0) true _ N4.out).mono ?_); rintro e w' ⟨rfl, ⟨nd, rfl⟩⟩; (try first | exact ⟨rfl, _, World.drewN_drewN _ _ _⟩ | exact ⟨rfl, _, Eq.trans (World.drewN_drewN _ _ _) (congrArg (World.drewN _) (Nat.add_assoc _ _ _))⟩))); try go_wp2_with (first | (go_at_call 105; (with_reducible refine (F7.calls k5 (rdOf ByteArray.empty m0 (C0)) (rdOf ByteArray.empty m0 n0) true _ N4.out).mono ?_); rintro e w' ⟨rfl, ⟨nd, rfl⟩⟩; (try first | exact ⟨rfl, _, World.drewN_drewN _ _ _⟩ | exact ⟨rfl, _, Eq.trans (World.drewN_drewN _ _ _) (congrArg (World.drewN _) (Nat.add_assoc _ _ _))⟩))))
              go_roundg k5
              case measure => have := Q1.out; have := V1.out; have := Z0.out; have := N1.out; have := I4.out; omega
              case rel => exact ⟨(wrap64 (n0 + 1)), fr, H', ⟨by have := Q1.out; have := V1.out; have := Z0.out; have := N1.out; have := I4.out; omega⟩, ⟨gB a0⟩, ⟨bh HB⟩⟩
             replace K4 := Bool.eq_false_iff.mpr K4
             subst K4
             have H1 : (none) = some r := by rw [if_neg (show ¬ (false = true) by decide)] at H; exact H
             exact absurd H1 (by simp)
            rw [if_neg Z2] at H
            have V3 : decide (0 < n0) = false := decide_eq_false Z2
            clear Z2
            have H' := am_ H
            clear H
            obtain ⟨_, _, _, _, _, _, _, _, _, _, _, _⟩ := bx6 a0
            have P0 : 0 ≤ (n0 : Int) := dt
            have Q0 : n0 < (m0.length : Int) := dt
            obtain ⟨i1, i2, z0⟩ := Kd.at_string W0.out n0 P0 Q0
            cases i2
            replace z0 := ce HB z0
            replace P0 := eq_true P0
            replace Q0 := eq_true Q0
            go_wp2
            repeat (go_quiet (fail); try go_wp2)
            go_roundg k5
            case measure => have := Q1.out; have := V1.out; have := Z0.out; have := N1.out; have := I4.out; omega
            case rel => exact ⟨(wrap64 (n0 + 1)), fr, H', ⟨by have := Q1.out; have := V1.out; have := Z0.out; have := N1.out; have := I4.out; omega⟩, ⟨gB a0⟩, ⟨bh HB⟩⟩
           rw [if_neg b3] at H
           have l3 : decide (n0 < (m0.length : Int)) = false := decide_eq_false b3
           clear b3
           replace H := Option.bind_eq_some_iff.mp H
           obtain ⟨O4, i3, H⟩ := H
           try dsimp only at H
           have a3 := am_ i3
           clear i3
           replace H := Option.bind_eq_some_iff.mp H
           obtain ⟨S4, L3, H⟩ := H
           try dsimp only at H
           have V2 := am_ L3
           clear L3
           by_cases C4 : O4 = true
           ·
            subst C4
            rw [if_pos rfl] at H
            by_cases J4 : S4 = true
            ·
             subst J4
             rw [if_pos rfl] at H
             obtain rfl := Option.some.inj H
             obtain ⟨_, _, _, _, _, _, _, _, _, _, _, _⟩ := bx6 a0
             go_wp2_with (first | (go_at_call 77; (with_reducible refine (F1.calls o0 u0 true _ a3.out).mono ?_); rintro e b5 ⟨rfl, hb⟩; replace a0 := tBb a0 hb; replace HB := tHb HB hb; (try clear hb); obtain ⟨_, _, _, _, _, _, _, _, _, _, _, _⟩ := bx6 a0) | (go_at_call 43; (with_reducible refine (Gi.calls a0_1 true _ V2.out).mono ?_); rintro e w' ⟨rfl, ⟨nd, rfl⟩⟩; (try first | exact ⟨rfl, _, World.drewN_drewN _ _ _⟩ | exact ⟨rfl, _, Eq.trans (World.drewN_drewN _ _ _) (congrArg (World.drewN _) (Nat.add_assoc _ _ _))⟩)))
             (try simp only [Act.put, List.setIfInBounds_toArray, List.set_cons_zero, List.set_cons_succ])
             repeat (go_quiet (first | (go_at_call 77; (with_reducible refine (F1.calls o0 u0 true _ a3.out).mono ?_); rintro e b5 ⟨rfl, hb⟩; replace a0 := tBb a0 hb; replace HB := tHb HB hb; (try clear hb); obtain ⟨_, _, _, _, _, _, _, _, _, _, _, _⟩ := bx6 a0) | (go_at_call 43; (with_reducible refine (Gi.calls a0_1 true _ V2.out).mono ?_); rintro e w' ⟨rfl, ⟨nd, rfl⟩⟩; (try first | exact ⟨rfl, _, World.drewN_drewN _ _ _⟩ | exact ⟨rfl, _, Eq.trans (World.drewN_drewN _ _ _) (congrArg (World.drewN _) (Nat.add_assoc _ _ _))⟩))); try go_wp2_with (first | (go_at_call 77; (with_reducible refine (F1.calls o0 u0 true _ a3.out).mono ?_); rintro e b5 ⟨rfl, hb⟩; replace a0 := tBb a0 hb; replace HB := tHb HB hb; (try clear hb); obtain ⟨_, _, _, _, _, _, _, _, _, _, _, _⟩ := bx6 a0) | (go_at_call 43; (with_reducible refine (Gi.calls a0_1 true _ V2.out).mono ?_); rintro e w' ⟨rfl, ⟨nd, rfl⟩⟩; (try first | exact ⟨rfl, _, World.drewN_drewN _ _ _⟩ | exact ⟨rfl, _, Eq.trans (World.drewN_drewN _ _ _) (congrArg (World.drewN _) (Nat.add_assoc _ _ _))⟩))))
             go_ret
             exact ⟨fe, bh HB⟩
            replace J4 := Bool.eq_false_iff.mpr J4
            subst J4
            rw [if_neg (show ¬ (false = true) by decide)] at H
            revert H
            refine gi' (fun W4 H => ?_)
            have c5 : (o0 == 0) = true := beq_iff_eq.mpr W4
            have A5 : (o0 != 0) = false := bne_eq_false_iff_eq.mpr W4
            clear W4
            obtain rfl := Option.some.inj H
            obtain ⟨_, _, _, _, _, _, _, _, _, _, _, _⟩ := bx6 a0
            go_wp2_with (first | (go_at_call 77; (with_reducible refine (F1.calls o0 u0 true _ a3.out).mono ?_); rintro e m5 ⟨rfl, hb⟩; replace a0 := tBb a0 hb; replace HB := tHb HB hb; (try clear hb); obtain ⟨_, _, _, _, _, _, _, _, _, _, _, _⟩ := bx6 a0) | (go_at_call 43; (with_reducible refine (Gi.calls a0_1 false _ V2.out).mono ?_); rintro e w' ⟨rfl, ⟨nd, rfl⟩⟩; (try first | exact ⟨rfl, _, World.drewN_drewN _ _ _⟩ | exact ⟨rfl, _, Eq.trans (World.drewN_drewN _ _ _) (congrArg (World.drewN _) (Nat.add_assoc _ _ _))⟩)))
            (try simp only [Act.put, List.setIfInBounds_toArray, List.set_cons_zero, List.set_cons_succ])
            repeat (go_quiet (first | (go_at_call 77; (with_reducible refine (F1.calls o0 u0 true _ a3.out).mono ?_); rintro e m5 ⟨rfl, hb⟩; replace a0 := tBb a0 hb; replace HB := tHb HB hb; (try clear hb); obtain ⟨_, _, _, _, _, _, _, _, _, _, _, _⟩ := bx6 a0) | (go_at_call 43; (with_reducible refine (Gi.calls a0_1 false _ V2.out).mono ?_); rintro e w' ⟨rfl, ⟨nd, rfl⟩⟩; (try first | exact ⟨rfl, _, World.drewN_drewN _ _ _⟩ | exact ⟨rfl, _, Eq.trans (World.drewN_drewN _ _ _) (congrArg (World.drewN _) (Nat.add_assoc _ _ _))⟩))); try go_wp2_with (first | (go_at_call 77; (with_reducible refine (F1.calls o0 u0 true _ a3.out).mono ?_); rintro e m5 ⟨rfl, hb⟩; replace a0 := tBb a0 hb; replace HB := tHb HB hb; (try clear hb); obtain ⟨_, _, _, _, _, _, _, _, _, _, _, _⟩ := bx6 a0) | (go_at_call 43; (with_reducible refine (Gi.calls a0_1 false _ V2.out).mono ?_); rintro e w' ⟨rfl, ⟨nd, rfl⟩⟩; (try first | exact ⟨rfl, _, World.drewN_drewN _ _ _⟩ | exact ⟨rfl, _, Eq.trans (World.drewN_drewN _ _ _) (congrArg (World.drewN _) (Nat.add_assoc _ _ _))⟩))))
            go_ret
            exact ⟨fe, bh HB⟩
           replace C4 := Bool.eq_false_iff.mpr C4
           subst C4
           have H1 : (none) = some r := by rw [if_neg (show ¬ (false = true) by decide)] at H; exact H
           exact absurd H1 (by simp)
end Go.Proofs.YtopijobdblfhoaaGreat.PTuskAsks
