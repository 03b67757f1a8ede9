-- written by a program of this session (pp.py), out of the kit's print and this session's contracts
import Derived.Test.YtopijobdblfhoaaGreatPTuskAsksx0
import Derived.Test.YtopijobdblfhoaaGreatPTuskAsksx6
import Derived.Test.YtopijobdblfhoaaGreatVTuskAsksPi
namespace Go.Proofs.YtopijobdblfhoaaGreat.PTuskAsks
open Go.RowKit Go.Proofs.YtopijobdblfhoaaGreatW.PrintWords Go.Proofs.YtopijobdblfhoaaGreatW.PrintLast Go.Proofs.YtopijobdblfhoaaGreatW.PrintMore
set_option linter.unusedVariables false
set_option linter.unusedSimpArgs false

mutual
def G3.j0 : Nat → Bool → Int → Int → List ByteArray → Option (Bool)
 | 0, _, _, _, _ => none
 | k + 1, o0, m0, a0, n0 => if o0 = true then (some false) else (G3.l0 k 0 m0 a0 n0)
def G3.l0 : Nat → Int → Int → Int → List ByteArray → Option (Bool)
 | 0, _, _, _, _ => none
 | k + 1, x3, n0, m0, a0 => if x3 < (a0.length : Int) then (if 0 ≤ x3 then (if ((rdOf ByteArray.empty a0 x3).size : Int) < 1 then (some false) else (if ((rdOf ByteArray.empty a0 x3).size : Int) > 48 then (some false) else (G3.l0 k (wrap64 (x3 + 1)) n0 m0 a0))) else (none)) else (some true)
end
theorem G3.mono_l : ∀ k, (∀ y0 y1 y2 y3, LeO (G3.j0 k y0 y1 y2 y3) (G3.j0 (k + 1) y0 y1 y2 y3)) ∧ (∀ y0 y1 y2 y3, LeO (G3.l0 k y0 y1 y2 y3) (G3.l0 (k + 1) y0 y1 y2 y3))
 | 0 => ⟨fun _ _ _ _ r h => by simp [G3.j0] at h, fun _ _ _ _ r h => by simp [G3.l0] at h⟩
 | k + 1 => by
  obtain ⟨m0, a0⟩ := G3.mono_l k
  refine ⟨?_, ?_⟩
  ·
   intro y0 y1 y2 y3
   unfold G3.j0
   repeat' first | (with_reducible first | exact m0 _ _ _ _ | exact a0 _ _ _ _ | exact LeO.refl _ | exact LeO.none _ | refine LeO.ite ?_ ?_ | refine LeO.bind ?_ (fun _ => ?_)) | exact m0 _ _ _ _ | exact a0 _ _ _ _ | refine LeO.ite ?_ ?_ | refine LeO.bind ?_ (fun _ => ?_)
  intro y0 y1 y2 y3
  unfold G3.l0
  repeat' first | (with_reducible first | exact m0 _ _ _ _ | exact a0 _ _ _ _ | exact LeO.refl _ | exact LeO.none _ | refine LeO.ite ?_ ?_ | refine LeO.bind ?_ (fun _ => ?_)) | exact m0 _ _ _ _ | exact a0 _ _ _ _ | refine LeO.ite ?_ ?_ | refine LeO.bind ?_ (fun _ => ?_)
def H3.f (a0 : Int) : Option (Int) := (Fm.f a0).bind fun m0 => (if m0 = true then (some (wrap64 (a0 - (wrap64 (Int.tdiv (wrap64 (a0 - 1)) 3))))) else (some 0))
set_option maxHeartbeats 8000000 in
set_option maxRecDepth 100000 in
theorem H3.calls (a0 : Int) (r : Int) (w : World) (h : H3.f a0 = some r) :
  Calls Tryz.prog 104 #[.int .i64 a0] w fun e w' => e = .returned (.int .i64 r) ∧ Drawn0 w w' := by
 have H : ((Fm.f a0).bind fun m0 => (if m0 = true then (some (wrap64 (a0 - (wrap64 (Int.tdiv (wrap64 (a0 - 1)) 3))))) else (some 0))) = some r := h
 clear h
 replace H := Option.bind_eq_some_iff.mp H
 obtain ⟨m0, n0, H⟩ := H
 try dsimp only at H
 have A2 := am_ n0
 clear n0
 by_cases c3 : m0 = true
 ·
  subst c3
  rw [if_pos rfl] at H
  obtain rfl := Option.some.inj H
  go_enter Tryz.func104, Tryz.ntmps104
  go_wp2_with (first | ((with_reducible refine gate_callee (f := 54) rfl ?_); refine gl_ (some 5) Tryz.func54 #[.int .i64 a0] ?_; (with_reducible refine (Fm.calls a0 true _ A2.out).mono ?_); rintro e w' ⟨rfl, ⟨nd, rfl⟩⟩; refine ⟨_, rfl, ?_⟩))
  go_ret
  exact ⟨fr, by repeat (first | exact Drawn0.refl _ | apply Drawn0.step)⟩
 replace c3 := Bool.eq_false_iff.mpr c3
 subst c3
 rw [if_neg (show ¬ (false = true) by decide)] at H
 obtain rfl := Option.some.inj H
 go_enter Tryz.func104, Tryz.ntmps104
 go_wp2_with (first | ((with_reducible refine gate_callee (f := 54) rfl ?_); refine gl_ (some 5) Tryz.func54 #[.int .i64 a0] ?_; (with_reducible refine (Fm.calls a0 false _ A2.out).mono ?_); rintro e w' ⟨rfl, ⟨nd, rfl⟩⟩; refine ⟨_, rfl, ?_⟩))
 go_ret
 exact ⟨fr, by repeat (first | exact Drawn0.refl _ | apply Drawn0.step)⟩

mutual
def F7.l0 : Nat → ByteArray → ByteArray → Int → Option (Bool)
 | 0, _, _, _ => none
 | k + 1, x0, x1, x5 => if x5 < (x0.size : Int) then (F7.j1 k x0 x1 x5 (decide (x5 < (x1.size : Int)))) else (none)
def F7.j1 : Nat → ByteArray → ByteArray → Int → Bool → Option (Bool)
 | 0, _, _, _, _ => none
 | k + 1, x0, x1, x5, a0 => if a0 = true then (if 0 ≤ x5 then (if x5 < (x0.size : Int) then (if x5 < (x1.size : Int) then (if (bt x0 x5) = (bt x1 x5) then (F7.l0 k x0 x1 (wrap64 (x5 + 1))) else (some (decide ((bt x0 x5) < (bt x1 x5))))) else (none)) else (none)) else (none)) else (none)
end
def F7.f (k : Nat) (a0 : ByteArray) (a1 : ByteArray) : Option (Bool) := F7.l0 k a0 a1 0
theorem F7.mono_l : ∀ k, (∀ y0 y1 y2, LeO (F7.l0 k y0 y1 y2) (F7.l0 (k + 1) y0 y1 y2)) ∧ (∀ y0 y1 y2 y3, LeO (F7.j1 k y0 y1 y2 y3) (F7.j1 (k + 1) y0 y1 y2 y3))
 | 0 => ⟨fun _ _ _ r h => by simp [F7.l0] at h, fun _ _ _ _ r h => by simp [F7.j1] at h⟩
 | k + 1 => by
  obtain ⟨m0, a0⟩ := F7.mono_l k
  refine ⟨?_, ?_⟩
  ·
   intro y0 y1 y2
   unfold F7.l0
   repeat' first | (with_reducible first | exact m0 _ _ _ | exact a0 _ _ _ _ | exact LeO.refl _ | exact LeO.none _ | refine LeO.ite ?_ ?_ | refine LeO.bind ?_ (fun _ => ?_)) | exact m0 _ _ _ | exact a0 _ _ _ _ | refine LeO.ite ?_ ?_ | refine LeO.bind ?_ (fun _ => ?_)
  intro y0 y1 y2 y3
  unfold F7.j1
  repeat' first | (with_reducible first | exact m0 _ _ _ | exact a0 _ _ _ _ | exact LeO.refl _ | exact LeO.none _ | refine LeO.ite ?_ ?_ | refine LeO.bind ?_ (fun _ => ?_)) | exact m0 _ _ _ | exact a0 _ _ _ _ | refine LeO.ite ?_ ?_ | refine LeO.bind ?_ (fun _ => ?_)
theorem F7.mono : ∀ a0 a1 k, LeO (F7.f k a0 a1) (F7.f (k + 1) a0 a1) := by
 intro a0 a1 k
 obtain ⟨n0, m0⟩ := F7.mono_l k
 unfold F7.f
 repeat' first | (with_reducible first | exact n0 _ _ _ | exact m0 _ _ _ _ | exact LeO.refl _ | exact LeO.none _ | refine LeO.ite ?_ ?_ | refine LeO.bind ?_ (fun _ => ?_)) | exact n0 _ _ _ | exact m0 _ _ _ _ | refine LeO.ite ?_ ?_ | refine LeO.bind ?_ (fun _ => ?_)
set_option maxHeartbeats 8000000 in
set_option maxRecDepth 100000 in
theorem F7.calls (k : Nat) (a0 : ByteArray) (a1 : ByteArray) (r : Bool) (w : World) (h : F7.f k a0 a1 = some r) :
  Calls Tryz.prog 105 #[.string a0, .string a1] w fun e w' => e = .returned (.bool r) ∧ Drawn0 w w' := by
 have H : (F7.l0 k a0 a1 0) = some r := h
 clear h
 have H' := am_ H
 clear H
 go_enter Tryz.func105, Tryz.ntmps105
 go_wp2
 repeat (go_quiet (fail); try go_wp2)
 go_loopg [5] k (fun kq v5 w' => ∃ (m0 : Int), v5 = .int .i64 m0 ∧ Asc (F7.l0 kq a0 a1 m0 = some r) ∧ Asc (kq ≤ k) ∧ Drawn0 w w')
 case atStart => exact ⟨(0), fr, H', ⟨Nat.le_refl _⟩, by repeat (first | exact Drawn0.refl _ | apply Drawn0.step)⟩
 case round =>
  clear H'
  obtain ⟨m0, rfl, HA, I0, ⟨m1, rfl⟩⟩ := hrel
  cases gk with
  | zero => exact absurd HA.out (by simp [F7.l0])
  | succ k1 =>
   have H := HA.out
   clear HA
   simp only [F7.l0] at H
   have L0 := am_ H
   clear H
   go_upto_region 2 with (fail)
   repeat (go_quiet (fail); go_upto_region 2 with (fail))
   go_cut [15] (fun V0 wc => ∃ (kq : Nat) (n0 : Bool), V0 = .bool n0 ∧ Asc (F7.j1 kq a0 a1 m0 n0 = some r) ∧ Asc (kq ≤ k1) ∧ Drawn0 w wc)
   case first =>
    have H := L0.out
    clear L0
    revert H
    refine gi (fun E0 H => ?_)
    (first | rw [E0] | (simp only [i64_w, i32_w]; rw [E0]) | skip)
    have H' := am_ H
    clear H
    go_wp2
    repeat (go_quiet (fail); try go_wp2)
    go_meet
    case rel => exact ⟨_, (decide (m0 < (a1.size : Int))), fr, H', ⟨by have := I0.out; first | omega | exact Nat.le_refl _⟩, by repeat (first | exact Drawn0.refl _ | apply Drawn0.step)⟩
   case rest =>
    clear L0
    obtain ⟨kq, n0, rfl, HA, O0, ⟨L1, rfl⟩⟩ := hcut
    cases kq with
    | zero => exact absurd HA.out (by simp [F7.j1])
    | succ W0 =>
     have H := HA.out
     clear HA
     simp only [F7.j1] at H
     by_cases c5 : n0 = true
     ·
      subst c5
      rw [if_pos rfl] at H
      revert H
      refine gi (fun C1 H => ?_)
      revert H
      refine gi (fun Y0 H => ?_)
      revert H
      refine gi (fun i1 H => ?_)
      by_cases o0 : (bt a0 m0) = (bt a1 m0)
      ·
       rw [if_pos o0] at H
       have C0 : ((bt a0 m0) == (bt a1 m0)) = true := beq_iff_eq.mpr o0
       have A0 : ((bt a0 m0) != (bt a1 m0)) = false := bne_eq_false_iff_eq.mpr o0
       clear o0
       have H' := am_ H
       clear H
       have p8 : 0 ≤ (m0 : Int) := dt
       have q8 : m0 < (a0.size : Int) := dt
       have Z0 := bt_at a0 m0
       replace p8 := eq_true p8
       replace q8 := eq_true q8
       have u0 : 0 ≤ (m0 : Int) := dt
       have z0 : m0 < (a1.size : Int) := dt
       have M0 := bt_at a1 m0
       replace u0 := eq_true u0
       replace z0 := eq_true z0
       go_wp2
       repeat (go_quiet (fail); try go_wp2)
       go_roundg W0
       case measure => have := I0.out; have := O0.out; omega
       case rel => exact ⟨(wrap64 (m0 + 1)), fr, H', ⟨by have := I0.out; have := O0.out; omega⟩, by repeat (first | exact Drawn0.refl _ | apply Drawn0.step)⟩
      rw [if_neg o0] at H
      have C0 : ((bt a0 m0) == (bt a1 m0)) = false := beq_eq_false_iff_ne.mpr o0
      have A0 : ((bt a0 m0) != (bt a1 m0)) = true := bne_iff_ne.mpr o0
      obtain rfl := Option.some.inj H
      have p8 : 0 ≤ (m0 : Int) := dt
      have q8 : m0 < (a0.size : Int) := dt
      have Z0 := bt_at a0 m0
      replace p8 := eq_true p8
      replace q8 := eq_true q8
      have u0 : 0 ≤ (m0 : Int) := dt
      have z0 : m0 < (a1.size : Int) := dt
      have M0 := bt_at a1 m0
      replace u0 := eq_true u0
      replace z0 := eq_true z0
      have U0 : 0 ≤ (m0 : Int) := dt
      have N0 : m0 < (a0.size : Int) := dt
      have D1 := bt_at a0 m0
      replace U0 := eq_true U0
      replace N0 := eq_true N0
      have P0 : 0 ≤ (m0 : Int) := dt
      have Q0 : m0 < (a1.size : Int) := dt
      have X0 := bt_at a1 m0
      replace P0 := eq_true P0
      replace Q0 := eq_true Q0
      go_wp2
      repeat (go_quiet (fail); try go_wp2)
      go_ret
      exact ⟨fr, by repeat (first | exact Drawn0.refl _ | apply Drawn0.step)⟩
     replace c5 := Bool.eq_false_iff.mpr c5
     subst c5
     have H1 : (none) = some r := by rw [if_neg (show ¬ (false = true) by decide)] at H; exact H
     exact absurd H1 (by simp)
end Go.Proofs.YtopijobdblfhoaaGreat.PTuskAsks
