-- written by a program of this session (pp.py), out of the kit's print and this session's contracts
import Derived.Test.YtopijobdblfhoaaGreatPTuskAsksx0
import Derived.Test.YtopijobdblfhoaaGreatPTuskAsksx6
import Derived.Test.YtopijobdblfhoaaGreatPTuskAsksx8
import Derived.Test.YtopijobdblfhoaaGreatPTuskAsksx9
import Derived.Test.YtopijobdblfhoaaGreatVTuskAsksPi
namespace Go.Proofs.YtopijobdblfhoaaGreat.PTuskAsks
open Go.RowKit Go.Proofs.YtopijobdblfhoaaGreatW.PrintWords Go.Proofs.YtopijobdblfhoaaGreatW.PrintLast Go.Proofs.YtopijobdblfhoaaGreatW.PrintMore
set_option linter.unusedVariables false
set_option linter.unusedSimpArgs false

def Fv.l0 : Nat → List ByteArray → Int → Int → Int → List (S107) → List ByteArray → Int → Int → Option (ByteArray × Int)
 | 0, _, _, _, _, _, _, _, _ => none
 | k + 1, x7, x8, u0, z0, A0, o0, I0, E0 => if x8 < (A0.length : Int) then (none) else ((Ga.f (IntKind.u64.wrap (u0))).bind fun a0 => ((Ga.f (IntKind.u64.wrap (z0))).bind fun m0 => (if a0.size + m0.size ≤ 9223372036854775807 then ((Gr.f x7).bind fun n0 => (if (a0 ++ m0).size + n0.size ≤ 9223372036854775807 then ((Gr.f o0).bind fun C0 => (if ((a0 ++ m0) ++ n0).size + C0.size ≤ 9223372036854775807 then ((Ga.f (IntKind.u64.wrap (I0))).bind fun L0 => (if (((a0 ++ m0) ++ n0) ++ C0).size + L0.size ≤ 9223372036854775807 then ((Ga.f (IntKind.u64.wrap (E0))).bind fun M0 => (if ((((a0 ++ m0) ++ n0) ++ C0) ++ L0).size + M0.size ≤ 9223372036854775807 then (some (((((a0 ++ m0) ++ n0) ++ C0) ++ L0) ++ M0, 0)) else (none))) else (none))) else (none))) else (none))) else (none))))
def Fv.f (k : Nat) (a0_0 : Int) (a0_1 : Int) (l0_2 : List (S107)) (a0 : List ByteArray) (m0 : Int) (n0 : Int) (a1 : Int) : Option (ByteArray × Int) := (F0.f k a0_0 a0_1 l0_2 a0 m0 n0 a1).bind fun o0 => (if o0 = true then (Fv.l0 k ([] : List ByteArray) 0 a0_0 a0_1 l0_2 a0 m0 n0) else (none))
theorem Fv.mono_l : ∀ k, (∀ y0 y1 y2 y3 y4 y5 y6 y7, LeO (Fv.l0 k y0 y1 y2 y3 y4 y5 y6 y7) (Fv.l0 (k + 1) y0 y1 y2 y3 y4 y5 y6 y7))
 | 0 => fun _ _ _ _ _ _ _ _ r h => by simp [Fv.l0] at h
 | k + 1 => by
  have a0 := Fv.mono_l k
  ·
   intro y0 y1 y2 y3 y4 y5 y6 y7
   unfold Fv.l0
   repeat' first | (with_reducible first | exact a0 _ _ _ _ _ _ _ _ | exact H8.mono _ _ _ _ | exact F0.mono _ _ _ _ _ _ _ _ | exact LeO.refl _ | exact LeO.none _ | refine LeO.ite ?_ ?_ | refine LeO.bind ?_ (fun _ => ?_)) | exact a0 _ _ _ _ _ _ _ _ | refine LeO.ite ?_ ?_ | refine LeO.bind ?_ (fun _ => ?_)
theorem Fv.mono : ∀ a0 a1 a2 a3 a4 a5 a6 k, LeO (Fv.f k a0 a1 a2 a3 a4 a5 a6) (Fv.f (k + 1) a0 a1 a2 a3 a4 a5 a6) := by
 intro a0 a1 a2 a3 a4 a5 a6 k
 have m0 := Fv.mono_l k
 unfold Fv.f
 repeat' first | (with_reducible first | exact m0 _ _ _ _ _ _ _ _ | exact H8.mono _ _ _ _ | exact F0.mono _ _ _ _ _ _ _ _ | exact LeO.refl _ | exact LeO.none _ | refine LeO.ite ?_ ?_ | refine LeO.bind ?_ (fun _ => ?_)) | exact m0 _ _ _ _ _ _ _ _ | refine LeO.ite ?_ ?_ | refine LeO.bind ?_ (fun _ => ?_)
def Fv.T10 : Bool × List (List Nat × List Nat) := (true, [([], []), ([0], [0]), ([1], [1]), ([2], [2]), ([], []), ([4], [4]), ([5], [5]), ([6, 3], [6]), ([3, 7], [3, 7]), ([], []), ([9, 7], [9]), ([8, 10], [8, 10]), ([], []), ([12], [12]), ([13, 10], [13]), ([11, 14], [11, 14]), ([15, 14, 0, 1, 2, 3, 4, 5, 6, 7, 8, 9, 10, 11, 12, 13, 14, 15], [15])])
def Fv.B10 : List Nat := [0, 1, 3, 7, 0, 16, 48, 127, 255, 0, 767, 2047, 0, 4096, 14079, 32767, 65535]
theorem Fv.tab10 : rtab .any (opsOf Tryz.f66 10) = Fv.T10 := by kernel_rfl
theorem Fv.bits10 : waitsOk Fv.T10.2 Fv.B10 = true := by kernel_rfl
def Fv.T11 : Bool × List (List Nat × List Nat) := (true, [([], []), ([], []), ([1], [1]), ([2], [2]), ([3], [3]), ([4], [4]), ([0, 5], [0, 5]), ([], []), ([7], [7]), ([8], [8]), ([9], [9]), ([10, 5], [10]), ([6, 11], [6, 11]), ([12, 11, 0, 1, 2, 3, 4, 5, 6, 7, 8, 9, 10, 11, 12], [12]), ([13, 0, 1, 2, 3, 4, 5, 6, 7, 8, 9, 10, 11, 12, 13], [])])
def Fv.B11 : List Nat := [0, 0, 2, 6, 14, 30, 63, 0, 128, 384, 896, 1982, 4095, 8191, 16383]
theorem Fv.tab11 : rtab .any (opsOf Tryz.f66 11) = Fv.T11 := by kernel_rfl
theorem Fv.bits11 : waitsOk Fv.T11.2 Fv.B11 = true := by kernel_rfl
set_option maxHeartbeats 8000000 in
set_option maxRecDepth 100000 in
theorem Fv.calls (k : Nat) (a0_0 : Int) (a0_1 : Int) (A0_2 : Option Addr) (c0_2 : Nat) (l0_2 : List (S107)) (L0 : Option Addr) (M0 : Nat) (m0 : List ByteArray) (n0 : Int) (u0 : Int) (a1 : Int) (r1 : ByteArray) (r2 : Int) (w : World) (hr0_2 : Kd.C k107 w A0_2 l0_2.length l0_2) (hc0_2 : l0_2.length ≤ c0_2) (W0 : Kd.C Kd.string w L0 m0.length m0) (U0 : m0.length ≤ M0) (h : Fv.f k a0_0 a0_1 l0_2 m0 n0 u0 a1 = some (r1, r2)) :
  Calls Tryz.prog 66 #[.agg #[.int .i64 a0_0, .int .i64 a0_1, .slice A0_2 l0_2.length c0_2, .slice L0 m0.length M0, .int .i64 n0, .int .i64 u0], .int .i64 a1] w fun e w' => e = .returned (.tuple #[.string r1, .int .i64 r2]) ∧ Below w.heap.size w w' := by
 have M4 := Tryz.underlying30
 have D3 := Tryz.underlying107
 have X1 := am_ hr0_2
 have Z0 := am_ hc0_2
 clear hr0_2 hc0_2
 have V0 := am_ W0
 have Q0 := am_ U0
 clear W0 U0
 have HB := am_ (Below.refl w.heap.size w)
 have H : ((F0.f k a0_0 a0_1 l0_2 m0 n0 u0 a1).bind fun Y0 => (if Y0 = true then (Fv.l0 k ([] : List ByteArray) 0 a0_0 a0_1 l0_2 m0 n0 u0) else (none))) = some (r1, r2) := h
 clear h
 replace H := Option.bind_eq_some_iff.mp H
 obtain ⟨Y0, s4, H⟩ := H
 try dsimp only at H
 have A3 := am_ s4
 clear s4
 by_cases c4 : Y0 = true
 ·
  subst c4
  rw [if_pos rfl] at H
  have H' := am_ H
  clear H
  go_enter Tryz.func66, Tryz.ntmps66
  go_wp2_with (first | ((with_reducible refine gd_ 2 ?_); refine be_ 2 #[.int .i64 a0_0, .int .i64 a0_1, .slice A0_2 l0_2.length c0_2, .slice L0 m0.length M0, .int .i64 n0, .int .i64 u0] 30 ?_; intro O1 hg w5 hbox hb; have a0 := am_ hbox; have Z3 := tG HB hg; have l4 := tG HB hg; replace HB := tHb HB hb; clear hb hbox hg; obtain ⟨u3, D2, l3, J2, i3, b3, Q2, m3, L2, N2, Z2, a3⟩ := bx6 a0) | ((with_reducible refine gate_callee (f := 88) rfl ?_); refine gl_ (some 14) Tryz.func88 #[.agg #[.int .i64 a0_0, .int .i64 a0_1, .slice A0_2 l0_2.length c0_2, .slice L0 m0.length M0, .int .i64 n0, .int .i64 u0], .int .i64 a1] ?_; (with_reducible refine (F0.calls k a0_0 a0_1 _ _ l0_2 _ _ m0 n0 u0 a1 true _ ?C0 ?E0 ?C1 ?P1 A3.out).mono ?_); (case C0 => exact gCB X1 HB); (case E0 => exact Z0.out); (case C1 => exact gCB V0 HB); (case P1 => exact Q0.out); rintro e w7 ⟨rfl, hb⟩; refine ⟨_, rfl, ?_⟩; replace a0 := tBb a0 hb; replace HB := tHb HB hb; (try clear hb)))
  go_loopg [7, 8] k (fun kq v7 v8 w' => ∃ (P0 : List ByteArray) (N0 : Int), v8 = .int .i64 N0 ∧ Asc (Fv.l0 kq P0 N0 a0_0 a0_1 l0_2 m0 n0 u0 = some (r1, r2)) ∧ Asc (kq ≤ k) ∧ Asc (Kd.R Kd.string 9 w' w.heap.size (fun _ => True) v7 P0) ∧ Asc (w'.heap[O1]? = some (.cells #[.int .i64 a0_0, .int .i64 a0_1, (.slice A0_2 l0_2.length c0_2), (.slice L0 m0.length M0), .int .i64 n0, .int .i64 u0] 30 (0, 0))) ∧ Asc (Below w.heap.size w w'))
  case atStart => exact ⟨(([] : List ByteArray)), (0), fr, H', ⟨Nat.le_refl _⟩, ⟨kn⟩, ⟨gB a0⟩, ⟨bh HB⟩⟩
  case round =>
   clear H'
   try clear c4 u3 D2 l3 J2 i3 b3 Q2 m3 L2 N2 Z2 a3
   obtain ⟨P0, N0, rfl, HA, Y4, HO_7, a0, HB⟩ := hrel
   cases gk with
   | zero => exact absurd HA.out (by simp [Fv.l0])
   | succ k1 =>
    have H := HA.out
    clear HA
    simp only [Fv.l0] at H
    by_cases c8 : N0 < (l0_2.length : Int)
    ·
     rw [if_pos c8] at H
     exact absurd H (by simp)
    rw [if_neg c8] at H
    have N4 : decide (N0 < (l0_2.length : Int)) = false := decide_eq_false c8
    clear c8
    replace H := Option.bind_eq_some_iff.mp H
    obtain ⟨o0, N1, H⟩ := H
    try dsimp only at H
    have C4 := am_ N1
    clear N1
    replace H := Option.bind_eq_some_iff.mp H
    obtain ⟨z0, V1, H⟩ := H
    try dsimp only at H
    have u4 := am_ V1
    clear V1
    revert H
    refine gi' (fun V2 H => ?_)
    have S3 := eq_true V2
    have I3 : decide (o0.size + z0.size ≤ 9223372036854775807) = true := decide_eq_true V2
    try have X3 : (9223372036854775807 < o0.size + z0.size) = False := eq_false (Nat.not_lt.2 V2)
    replace H := Option.bind_eq_some_iff.mp H
    obtain ⟨A0, D1, H⟩ := H
    try dsimp only at H
    have I4 := am_ D1
    clear D1
    revert H
    refine gi' (fun i2 H => ?_)
    have Q3 := eq_true i2
    have W3 : decide ((o0 ++ z0).size + A0.size ≤ 9223372036854775807) = true := decide_eq_true i2
    have c19u := i2
    (try simp only [ByteArray.size_append] at c19u)
    (try simp only [show ∀ x : UInt8, (⟨#[x]⟩ : ByteArray).size = 1 from fun _ => rfl] at c19u)
    have c19v := eq_false (Nat.not_lt.2 c19u)
    replace c19u := eq_true c19u
    try have J3 : (9223372036854775807 < (o0 ++ z0).size + A0.size) = False := eq_false (Nat.not_lt.2 i2)
    replace H := Option.bind_eq_some_iff.mp H
    obtain ⟨I0, U1, H⟩ := H
    try dsimp only at H
    have O4 := am_ U1
    clear U1
    revert H
    refine gi' (fun Y1 H => ?_)
    have V3 := eq_true Y1
    have j4 : decide (((o0 ++ z0) ++ A0).size + I0.size ≤ 9223372036854775807) = true := decide_eq_true Y1
    have c21u := Y1
    (try simp only [ByteArray.size_append] at c21u)
    (try simp only [show ∀ x : UInt8, (⟨#[x]⟩ : ByteArray).size = 1 from fun _ => rfl] at c21u)
    have c21v := eq_false (Nat.not_lt.2 c21u)
    replace c21u := eq_true c21u
    try have i4 : (9223372036854775807 < ((o0 ++ z0) ++ A0).size + I0.size) = False := eq_false (Nat.not_lt.2 Y1)
    replace H := Option.bind_eq_some_iff.mp H
    obtain ⟨O0, Q1, H⟩ := H
    try dsimp only at H
    have D4 := am_ Q1
    clear Q1
    revert H
    refine gi' (fun Z1 H => ?_)
    have Y3 := eq_true Z1
    have k4 : decide ((((o0 ++ z0) ++ A0) ++ I0).size + O0.size ≤ 9223372036854775807) = true := decide_eq_true Z1
    have c23u := Z1
    (try simp only [ByteArray.size_append] at c23u)
    (try simp only [show ∀ x : UInt8, (⟨#[x]⟩ : ByteArray).size = 1 from fun _ => rfl] at c23u)
    have c23v := eq_false (Nat.not_lt.2 c23u)
    replace c23u := eq_true c23u
    try have a4 : (9223372036854775807 < (((o0 ++ z0) ++ A0) ++ I0).size + O0.size) = False := eq_false (Nat.not_lt.2 Z1)
    replace H := Option.bind_eq_some_iff.mp H
    obtain ⟨X0, i1, H⟩ := H
    try dsimp only at H
    have K4 := am_ i1
    clear i1
    revert H
    refine gi' (fun C2 H => ?_)
    have m4 := eq_true C2
    have C3 : decide (((((o0 ++ z0) ++ A0) ++ I0) ++ O0).size + X0.size ≤ 9223372036854775807) = true := decide_eq_true C2
    have c25u := C2
    (try simp only [ByteArray.size_append] at c25u)
    (try simp only [show ∀ x : UInt8, (⟨#[x]⟩ : ByteArray).size = 1 from fun _ => rfl] at c25u)
    have c25v := eq_false (Nat.not_lt.2 c25u)
    replace c25u := eq_true c25u
    try have N3 : (9223372036854775807 < ((((o0 ++ z0) ++ A0) ++ I0) ++ O0).size + X0.size) = False := eq_false (Nat.not_lt.2 C2)
    simp only [Option.some.injEq, Prod.mk.injEq] at H
    obtain ⟨rfl, rfl⟩ := H
    obtain ⟨_, _, _, _, _, _, _, _, _, _, _, _⟩ := bx6 a0
    try go_wp2
    replace HO_7 := am_ (Kd.R_drew HO_7.out)
    replace a0 := am_ (blk_drew a0.out)
    replace HB := am_ (below_drew1 HB.out)
    refine st_ 17 [] (k6_ a0 ct) (fun hHeld => ?_); refine with_tabW Fv.tab10 Fv.bits10 (fun HT_ HW_ => ?_)
    generalize wr.drew = R4 at HO_7 a0 HB hHeld ⊢
    refine pu_ 0 (some 37) 1 HT_ (h := ?_)
    refine pu_ 4 (some 41) 17 HT_ (h := ?_)
    refine pu_ 9 (some 46) 529 HT_ (h := ?_)
    refine pu_ 12 (some 49) 4625 HT_ (h := ?_)
    refine tk_ 1 (some 38) 4627 HT_ HW_ hHeld (h := ?_)
    refine pu_ 2 (some 39) 4631 HT_ (h := ?_)
    refine tk_ 5 (some 42) 4663 HT_ HW_ hHeld (h := ?_)
    refine pu_ 6 (some 43) 4727 HT_ (h := ?_)
    refine tk_ 13 (some 50) 12919 HT_ HW_ hHeld (h := ?_)
    refine one_ (i := 3) (N := some 40) #[true, true, true, true, true, true, true, false, false, true, false, false, true, true, false, false, false] rfl rfl (one_of HT_.out (by kernel_rfl)) (by decide) (fun K hK => ?_)
    refine goes_ Tryz.func86 (by kernel_rfl) rfl #[.int .u64 (IntKind.u64.wrap (a0_0))] (by rfl) rfl rfl (by (try simp only [List.map_toArray, List.map_cons, List.map_nil]); first | done | rfl | (simp only [List.length_drop, List.length_take]; rfl)) ?_
    with_reducible refine (Ga.calls (IntKind.u64.wrap (a0_0)) o0 _ C4.out).mono ?_
    rintro e V4 ⟨rfl, hb⟩
    refine ⟨_, rfl, ?_⟩
    replace HO_7 := tRb HO_7 hb
    replace a0 := tBb a0 hb
    replace HB := tHb HB hb
    (try clear hb)
    (try clear hb2)
    (try clear hk)
    (try clear hi)
    refine hK.out _ _ (m6_ a0 ct) (fun hHeld => ?_)
    clear hK K
    refine norm_ (a' := ?_) ?_ ?_
    rotate_left
    ·
     show Act.put _ (some 40) _ = _
     simp only [Act.put, List.setIfInBounds_toArray, List.set_cons_zero, List.set_cons_succ, i64_w, i32_w]
     rfl
    refine one_ (i := 7) (N := some 44) #[true, true, true, true, true, true, true, true, false, true, false, false, true, true, false, false, false] rfl rfl (one_of HT_.out (by kernel_rfl)) (by decide) (fun K hK => ?_)
    refine goes_ Tryz.func86 (by kernel_rfl) rfl #[.int .u64 (IntKind.u64.wrap (a0_1))] (by rfl) rfl rfl (by (try simp only [List.map_toArray, List.map_cons, List.map_nil]); first | done | rfl | (simp only [List.length_drop, List.length_take]; rfl)) ?_
    with_reducible refine (Ga.calls (IntKind.u64.wrap (a0_1)) z0 _ u4.out).mono ?_
    rintro e W4 ⟨rfl, hb⟩
    refine ⟨_, rfl, ?_⟩
    replace HO_7 := tRb HO_7 hb
    replace a0 := tBb a0 hb
    replace HB := tHb HB hb
    (try clear hb)
    (try clear hb2)
    (try clear hk)
    (try clear hi)
    obtain ⟨Y2, k3, L1⟩ := Kd.R_slice HO_7.out
    (first | subst L1 | (injection L1 with L3 E4 U3; have P4 := L3.symm; have L4 := U3.symm; clear L3 E4 U3; subst P4; subst L4))
    refine hK.out _ _ (m6_ a0 ct) (fun hHeld => ?_)
    clear hK K
    refine norm_ (a' := ?_) ?_ ?_
    rotate_left
    ·
     show Act.put _ (some 44) _ = _
     simp only [Act.put, List.setIfInBounds_toArray, List.set_cons_zero, List.set_cons_succ, i64_w, i32_w]
     rfl
    refine pu_ 8 (some 45) 13311 HT_ (h := ?_)
    refine one_ (i := 10) (N := some 47) #[true, true, true, true, true, true, true, true, true, true, true, false, true, true, false, false, false] rfl rfl (one_of HT_.out (by kernel_rfl)) (by decide) (fun K hK => ?_)
    refine goes_ Tryz.func90 (by kernel_rfl) rfl #[.slice Y2 P0.length k3] (by rfl) rfl rfl (by (try simp only [List.map_toArray, List.map_cons, List.map_nil]); first | done | rfl | (simp only [List.length_drop, List.length_take]; rfl)) ?_
    with_reducible refine (Gr.calls _ _ P0 A0 _ ?C0 ?E0 I4.out).mono ?_
    (case C0 => repeat (first | exact (Kd.R_reads' HO_7.out).2.2 | (with_reducible refine Kd.C_alloc ?_ _) | (with_reducible refine Kd.C_drewN ?_ _) | (with_reducible refine Kd.C_drew ?_)))
    (case E0 => exact (Kd.R_reads' HO_7.out).2.1)
    rintro e U4 ⟨rfl, hb⟩
    refine ⟨_, rfl, ?_⟩
    replace HO_7 := tRb HO_7 hb
    replace a0 := tBb a0 hb
    replace HB := tHb HB hb
    (try clear hb)
    (try clear hb2)
    (try clear hk)
    (try clear hi)
    refine hK.out _ _ (m6_ a0 ct) (fun hHeld => ?_)
    clear hK K
    refine norm_ (a' := ?_) ?_ ?_
    rotate_left
    ·
     show Act.put _ (some 47) _ = _
     simp only [Act.put, List.setIfInBounds_toArray, List.set_cons_zero, List.set_cons_succ, i64_w, i32_w]
     rfl
    refine pu_ 11 (some 48) 16383 HT_ (h := ?_)
    refine one_ (i := 14) (N := some 51) #[true, true, true, true, true, true, true, true, true, true, true, true, true, true, true, false, false] rfl rfl (one_of HT_.out (by kernel_rfl)) (by decide) (fun K hK => ?_)
    refine goes_ Tryz.func90 (by kernel_rfl) rfl #[.slice L0 m0.length M0] (by rfl) rfl rfl (by (try simp only [List.map_toArray, List.map_cons, List.map_nil]); first | done | rfl | (simp only [List.length_drop, List.length_take]; rfl)) ?_
    with_reducible refine (Gr.calls _ _ m0 I0 _ ?C0 ?E0 O4.out).mono ?_
    (case C0 => exact gCB V0 HB)
    (case E0 => exact Q0.out)
    rintro e J4 ⟨rfl, hb⟩
    refine ⟨_, rfl, ?_⟩
    replace HO_7 := tRb HO_7 hb
    replace a0 := tBb a0 hb
    replace HB := tHb HB hb
    (try clear hb)
    (try clear hb2)
    (try clear hk)
    (try clear hi)
    refine hK.out _ _ (m6_ a0 ct) (fun hHeld => ?_)
    clear hK K
    refine norm_ (a' := ?_) ?_ ?_
    rotate_left
    ·
     show Act.put _ (some 51) _ = _
     simp only [Act.put, List.setIfInBounds_toArray, List.set_cons_zero, List.set_cons_succ, i64_w, i32_w]
     rfl
    refine pu_ 15 (some 52) 65535 HT_ (h := ?_)
    refine pu_ 16 (some 11) 131071 HT_ (h := ?_)
    refine done_ (done_of HT_.out (by kernel_rfl)) ?_
    try go_wp2
    replace HO_7 := am_ (Kd.R_drew HO_7.out)
    replace a0 := am_ (blk_drew a0.out)
    replace HB := am_ (below_drew1 HB.out)
    refine st_ 15 [] (k6_ a0 ct) (fun hHeld => ?_); refine with_tabW Fv.tab11 Fv.bits11 (fun HT_ HW_ => ?_)
    generalize J4.drew = Q4 at HO_7 a0 HB hHeld ⊢
    refine pu_ 0 (some 53) 1 HT_ (h := ?_)
    refine pu_ 1 (some 54) 3 HT_ (h := ?_)
    refine pu_ 2 (some 55) 7 HT_ (h := ?_)
    refine pu_ 7 (some 60) 135 HT_ (h := ?_)
    refine pu_ 8 (some 61) 391 HT_ (h := ?_)
    refine tk_ 3 (some 56) 399 HT_ HW_ hHeld (h := ?_)
    refine pu_ 4 (some 57) 415 HT_ (h := ?_)
    refine tk_ 9 (some 62) 927 HT_ HW_ hHeld (h := ?_)
    refine pu_ 10 (some 63) 1951 HT_ (h := ?_)
    refine one_ (i := 5) (N := some 58) #[true, true, true, true, true, true, false, true, true, true, true, false, false, false, false] rfl rfl (one_of HT_.out (by kernel_rfl)) (by decide) (fun K hK => ?_)
    refine goes_ Tryz.func86 (by kernel_rfl) rfl #[.int .u64 (IntKind.u64.wrap (n0))] (by rfl) rfl rfl (by (try simp only [List.map_toArray, List.map_cons, List.map_nil]); first | done | rfl | (simp only [List.length_drop, List.length_take]; rfl)) ?_
    with_reducible refine (Ga.calls (IntKind.u64.wrap (n0)) O0 _ D4.out).mono ?_
    rintro e X4 ⟨rfl, hb⟩
    refine ⟨_, rfl, ?_⟩
    replace HO_7 := tRb HO_7 hb
    replace a0 := tBb a0 hb
    replace HB := tHb HB hb
    (try clear hb)
    (try clear hb2)
    (try clear hk)
    (try clear hi)
    refine hK.out _ _ (m6_ a0 ct) (fun hHeld => ?_)
    clear hK K
    refine norm_ (a' := ?_) ?_ ?_
    rotate_left
    ·
     show Act.put _ (some 58) _ = _
     simp only [Act.put, List.setIfInBounds_toArray, List.set_cons_zero, List.set_cons_succ, i64_w, i32_w]
     rfl
    refine pu_ 6 (some 59) 2047 HT_ (h := ?_)
    refine one_ (i := 11) (N := some 64) #[true, true, true, true, true, true, true, true, true, true, true, true, false, false, false] rfl rfl (one_of HT_.out (by kernel_rfl)) (by decide) (fun K hK => ?_)
    refine goes_ Tryz.func86 (by kernel_rfl) rfl #[.int .u64 (IntKind.u64.wrap (u0))] (by rfl) rfl rfl (by (try simp only [List.map_toArray, List.map_cons, List.map_nil]); first | done | rfl | (simp only [List.length_drop, List.length_take]; rfl)) ?_
    with_reducible refine (Ga.calls (IntKind.u64.wrap (u0)) X0 _ K4.out).mono ?_
    rintro e S4 ⟨rfl, hb⟩
    refine ⟨_, rfl, ?_⟩
    replace HO_7 := tRb HO_7 hb
    replace a0 := tBb a0 hb
    replace HB := tHb HB hb
    (try clear hb)
    (try clear hb2)
    (try clear hk)
    (try clear hi)
    refine hK.out _ _ (m6_ a0 ct) (fun hHeld => ?_)
    clear hK K
    refine norm_ (a' := ?_) ?_ ?_
    rotate_left
    ·
     show Act.put _ (some 64) _ = _
     simp only [Act.put, List.setIfInBounds_toArray, List.set_cons_zero, List.set_cons_succ, i64_w, i32_w]
     rfl
    refine pu_ 12 (some 65) 8191 HT_ (h := ?_)
    refine pu_ 13 (some 4) 16383 HT_ (h := ?_)
    refine pu_ 14 (some 5) 32767 HT_ (h := ?_)
    refine done_ (done_of HT_.out (by kernel_rfl)) ?_
    try go_wp2
    go_ret2
    exact ⟨fe, bh HB⟩
 replace c4 := Bool.eq_false_iff.mpr c4
 subst c4
 have H1 : (none) = some (r1, r2) := by rw [if_neg (show ¬ (false = true) by decide)] at H; exact H
 exact absurd H1 (by simp)/-! ### Gk: function 67 -/
def Gk.f (a0 : ByteArray) : Option ByteArray := if a0.size ≤ 140737488351232 then some (Sm.sumB a0) else none
theorem Gk.calls (a0 : ByteArray) (r : ByteArray) (w : World) (h : Gk.f a0 = some r) :
  Calls Tryz.prog 67 #[.string a0] w fun e w' => e = .returned (.string r) ∧ Below w.heap.size w w' := by
 unfold Gk.f at h
 by_cases hs : a0.size ≤ 140737488351232
 ·
  rw [if_pos hs] at h
  obtain rfl := Option.some.inj h
  exact Sa.rsum_c a0 hs w
 rw [if_neg hs] at h; cases h

def Gf.f (k : Nat) (a0_0 : Int) (a0_1 : Int) (l0_2 : List (S107)) (n0 : List ByteArray) (u0 : Int) (o0 : Int) (a1 : Int) : Option (ByteArray × Int) := (Fv.f k a0_0 a0_1 l0_2 n0 u0 o0 a1).bind fun a0 => (if a0.2 = 0 then (if 1 + a0.1.size ≤ 9223372036854775807 then ((Gk.f ((⟨#[118]⟩ : ByteArray) ++ a0.1)).bind fun m0 => (some (m0, 0))) else (none)) else (none))
theorem Gf.mono : ∀ a0 a1 a2 a3 a4 a5 a6 k, LeO (Gf.f k a0 a1 a2 a3 a4 a5 a6) (Gf.f (k + 1) a0 a1 a2 a3 a4 a5 a6) := by
 intro a0 a1 a2 a3 a4 a5 a6 k
 unfold Gf.f
 repeat' first | (with_reducible first | exact Fv.mono _ _ _ _ _ _ _ _ | exact LeO.refl _ | exact LeO.none _ | refine LeO.ite ?_ ?_ | refine LeO.bind ?_ (fun _ => ?_)) | refine LeO.ite ?_ ?_ | refine LeO.bind ?_ (fun _ => ?_)
set_option maxHeartbeats 8000000 in
set_option maxRecDepth 100000 in
theorem Gf.calls (k : Nat) (a0_0 : Int) (a0_1 : Int) (A0_2 : Option Addr) (c0_2 : Nat) (l0_2 : List (S107)) (C0 : Option Addr) (A0 : Nat) (a0 : List ByteArray) (o0 : Int) (n0 : Int) (a1 : Int) (r1 : ByteArray) (r2 : Int) (w : World) (hr0_2 : Kd.C k107 w A0_2 l0_2.length l0_2) (hc0_2 : l0_2.length ≤ c0_2) (I0 : Kd.C Kd.string w C0 a0.length a0) (E0 : a0.length ≤ A0) (h : Gf.f k a0_0 a0_1 l0_2 a0 o0 n0 a1 = some (r1, r2)) :
  Calls Tryz.prog 45 #[.agg #[.int .i64 a0_0, .int .i64 a0_1, .slice A0_2 l0_2.length c0_2, .slice C0 a0.length A0, .int .i64 o0, .int .i64 n0], .int .i64 a1] w fun e w' => e = .returned (.tuple #[.string r1, .int .i64 r2]) ∧ Below w.heap.size w w' := by
 have P1 := Tryz.underlying30
 have W0 := am_ hr0_2
 have N0 := am_ hc0_2
 clear hr0_2 hc0_2
 have Q0 := am_ I0
 have O0 := am_ E0
 clear I0 E0
 have HB := am_ (Below.refl w.heap.size w)
 have H : ((Fv.f k a0_0 a0_1 l0_2 a0 o0 n0 a1).bind fun u0 => (if u0.2 = 0 then (if 1 + u0.1.size ≤ 9223372036854775807 then ((Gk.f ((⟨#[118]⟩ : ByteArray) ++ u0.1)).bind fun M0 => (some (M0, 0))) else (none)) else (none))) = some (r1, r2) := h
 clear h
 replace H := Option.bind_eq_some_iff.mp H
 obtain ⟨⟨z0, L0⟩, C1, H⟩ := H
 try dsimp only at H
 have A3 := am_ C1
 clear C1
 revert H
 refine gi' (fun c4 H => ?_)
 have Q1 : (L0 == 0) = true := beq_iff_eq.mpr c4
 have O1 : (L0 != 0) = false := bne_eq_false_iff_eq.mpr c4
 clear c4
 revert H
 refine gi' (fun c5 H => ?_)
 have L1 := eq_true c5
 have U1 : decide (1 + z0.size ≤ 9223372036854775807) = true := decide_eq_true c5
 try have N1 : (9223372036854775807 < 1 + z0.size) = False := eq_false (Nat.not_lt.2 c5)
 replace H := Option.bind_eq_some_iff.mp H
 obtain ⟨M0, D1, H⟩ := H
 try dsimp only at H
 have A6 := am_ D1
 clear D1
 simp only [Option.some.injEq, Prod.mk.injEq] at H
 obtain ⟨rfl, rfl⟩ := H
 go_enter Tryz.func45, Tryz.ntmps45
 go_wp2_with (first | ((with_reducible refine gd_ 2 ?_); refine be_ 2 #[.int .i64 a0_0, .int .i64 a0_1, .slice A0_2 l0_2.length c0_2, .slice C0 a0.length A0, .int .i64 o0, .int .i64 n0] 30 ?_; intro i1 hg w7 hbox hb; have m0 := am_ hbox; have Y0 := tG HB hg; have Z0 := tG HB hg; replace HB := tHb HB hb; clear hb hbox hg; obtain ⟨_, _, _, _, _, _, _, _, _, _, _, _⟩ := bx6 m0) | ((with_reducible refine gate_callee (f := 66) rfl ?_); refine gl_ (some 11) Tryz.func66 #[.agg #[.int .i64 a0_0, .int .i64 a0_1, .slice A0_2 l0_2.length c0_2, .slice C0 a0.length A0, .int .i64 o0, .int .i64 n0], .int .i64 a1] ?_; (with_reducible refine (Fv.calls k a0_0 a0_1 _ _ l0_2 _ _ a0 o0 n0 a1 z0 L0 _ ?U0 ?V0 ?P0 ?X0 A3.out).mono ?_); (case U0 => exact gCB W0 HB); (case V0 => exact N0.out); (case P0 => exact gCB Q0 HB); (case X0 => exact O0.out); rintro e w9 ⟨rfl, hb⟩; refine ⟨_, rfl, ?_⟩; replace m0 := tBb m0 hb; replace HB := tHb HB hb; (try clear hb)) | ((with_reducible refine gate_callee (f := 67) rfl ?_); refine gl_ (some 19) Tryz.func67 #[.string ((⟨#[118]⟩ : ByteArray) ++ z0)] ?_; (with_reducible refine (Gk.calls ((⟨#[118]⟩ : ByteArray) ++ z0) M0 _ A6.out).mono ?_); rintro e V1 ⟨rfl, hb⟩; refine ⟨_, rfl, ?_⟩; replace m0 := tBb m0 hb; replace HB := tHb HB hb; (try clear hb)))
 go_ret2
 exact ⟨fe, bh HB⟩
end Go.Proofs.YtopijobdblfhoaaGreat.PTuskAsks
