-- written by a program of this session (pp.py), out of the kit's print and this session's contracts
import Derived.Test.YtcbfnmabckjijaaPTuskStopsx0
import Derived.Test.YtcbfnmabckjijaaPTuskStopsx7
import Derived.Test.YtcbfnmabckjijaaVTuskStopsPh
namespace Go.Proofs.Ytcbfnmabckjijaa.PTuskStops
open Go.RowKit Go.Proofs.YtcbfnmabckjijaaW.PrintWords Go.Proofs.YtcbfnmabckjijaaW.PrintLast Go.Proofs.YtcbfnmabckjijaaW.PrintMore
set_option linter.unusedVariables false
set_option linter.unusedSimpArgs false

mutual
def Fd.j0 : Nat → List (S33) → Int → Bool → Option (Int × Int × Int × Int)
 | 0, _, _, _ => none
 | k + 1, x0, x1, x13 => if x13 = true then (some (0, 0, 0, 1)) else (Fd.l0 k x0 x1 0)
def Fd.l0 : Nat → List (S33) → Int → Int → Option (Int × Int × Int × Int)
 | 0, _, _, _ => none
 | k + 1, x0, x1, x6 => if x6 < (x0.length : Int) then (if 0 ≤ x6 then ((F9.f ((rd_T33 x0 x6).f0) ((rd_T33 x0 x6).f1)).bind fun t299 => (if t299 = true then (Fd.l0 k x0 x1 (wrap64 (x6 + 1))) else (some (0, 0, 0, 1)))) else (none)) else ((Ff.f k x0 x1 0).bind fun bt300 => (some (x1, bt300.1, bt300.2, 0)))
end
def Fd.f (k : Nat) (l0 : List (S33)) (a1 : Int) : Option (Int × Int × Int × Int) := if a1 < 1 then (Fd.j0 k l0 a1 true) else (Fd.j0 k l0 a1 (decide (a1 > 64)))
theorem Fd.mono_l : ∀ k, (∀ y0 y1 y2, LeO (Fd.j0 k y0 y1 y2) (Fd.j0 (k + 1) y0 y1 y2)) ∧ (∀ y0 y1 y2, LeO (Fd.l0 k y0 y1 y2) (Fd.l0 (k + 1) y0 y1 y2))
 | 0 => ⟨fun _ _ _ r h => by simp [Fd.j0] at h, fun _ _ _ r h => by simp [Fd.l0] at h⟩
 | k + 1 => by
  obtain ⟨ih0, ih1⟩ := Fd.mono_l k
  refine ⟨?_, ?_⟩
  ·
   intro y0 y1 y2
   unfold Fd.j0
   repeat' first | (with_reducible first | exact ih0 _ _ _ | exact ih1 _ _ _ | exact Ff.mono _ _ _ _ | exact LeO.refl _ | exact LeO.none _ | refine LeO.ite ?_ ?_ | refine LeO.bind ?_ (fun _ => ?_)) | exact ih0 _ _ _ | exact ih1 _ _ _ | refine LeO.ite ?_ ?_ | refine LeO.bind ?_ (fun _ => ?_)
  intro y0 y1 y2
  unfold Fd.l0
  repeat' first | (with_reducible first | exact ih0 _ _ _ | exact ih1 _ _ _ | exact Ff.mono _ _ _ _ | exact LeO.refl _ | exact LeO.none _ | refine LeO.ite ?_ ?_ | refine LeO.bind ?_ (fun _ => ?_)) | exact ih0 _ _ _ | exact ih1 _ _ _ | refine LeO.ite ?_ ?_ | refine LeO.bind ?_ (fun _ => ?_)
theorem Fd.mono : ∀ a0 a1 k, LeO (Fd.f k a0 a1) (Fd.f (k + 1) a0 a1) := by
 intro a0 a1 k
 obtain ⟨ih0, ih1⟩ := Fd.mono_l k
 unfold Fd.f
 repeat' first | (with_reducible first | exact ih0 _ _ _ | exact ih1 _ _ _ | exact Ff.mono _ _ _ _ | exact LeO.refl _ | exact LeO.none _ | refine LeO.ite ?_ ?_ | refine LeO.bind ?_ (fun _ => ?_)) | exact ih0 _ _ _ | exact ih1 _ _ _ | refine LeO.ite ?_ ?_ | refine LeO.bind ?_ (fun _ => ?_)
set_option maxHeartbeats 8000000 in
set_option maxRecDepth 100000 in
theorem Fd.calls (k : Nat) (A0 : Option Addr) (c0 : Nat) (l0 : List (S33)) (a1 : Int) (r1 : Int) (r2 : Int) (r3 : Int) (r4 : Int) (w : World) (hr0 : Kd.C k33 w A0 l0.length l0) (hc0 : l0.length ≤ c0) (h : Fd.f k l0 a1 = some (r1, r2, r3, r4)) :
  Calls Try.prog 89 #[.slice A0 l0.length c0, .int .i64 a1] w fun e w' => e = .returned (.tuple #[.agg #[.int .i64 r1, .int .i64 r2, .int .i64 r3], .int .i64 r4]) ∧ Below w.heap.size w w' := by
 have hu111 := Try.underlying111
 have hu33 := Try.underlying33
 have HR0 := am_ hr0
 have HC0 := am_ hc0
 clear hr0 hc0
 have HB := am_ (Below.refl w.heap.size w)
 have H : (if a1 < 1 then (Fd.j0 k l0 a1 true) else (Fd.j0 k l0 a1 (decide (a1 > 64)))) = some (r1, r2, r3, r4) := h
 clear h
 have HC3 := am_ H
 clear H
 go_enter Try.func89, Try.ntmps89
 go_upto_region 1 with (first | ((with_reducible refine gd_ 4 ?_); refine be_ 4 #[.int .i64 0, .int .i64 0, .int .i64 0] 111 ?_; intro gb297 hg w4 hbox hb; have BK297 := am_ hbox; have GW297 := tG HB hg; have GE297 := tG HB hg; replace HB := tHb HB hb; clear hb hbox hg))
 (try simp only [Act.put, List.setIfInBounds_toArray, List.set_cons_zero, List.set_cons_succ])
 go_cut [13] (fun v13 wc => ∃ (kq : Nat) (x13_2 : Bool), v13 = .bool x13_2 ∧ Asc (Fd.j0 kq l0 a1 x13_2 = some (r1, r2, r3, r4)) ∧ Asc (kq ≤ k) ∧ Asc (wc.heap[gb297]? = some (.cells #[.int .i64 0, .int .i64 0, .int .i64 0] 111 (0, 0))) ∧ Asc (Below w.heap.size w wc))
 case first =>
  have H := HC3.out
  clear HC3
  by_cases c5 : a1 < 1
  ·
   rw [if_pos c5] at H
   have c5b0 : decide (a1 < 1) = true := decide_eq_true c5
   clear c5
   (first | rw [c5b0] | (simp only [i64_w, i32_w]; rw [c5b0]) | skip)
   have H' := am_ H
   clear H
   go_wp2
   go_meet
   case rel => exact ⟨_, (true), fr, H', ⟨by first | omega | exact Nat.le_refl _⟩, ⟨gB BK297⟩, ⟨bh HB⟩⟩
  rw [if_neg c5] at H
  have c5b0 : decide (a1 < 1) = false := decide_eq_false c5
  clear c5
  (first | rw [c5b0] | (simp only [i64_w, i32_w]; rw [c5b0]) | skip)
  have H' := am_ H
  clear H
  go_wp2
  go_meet
  case rel => exact ⟨_, (decide (a1 > 64)), fr, H', ⟨by first | omega | exact Nat.le_refl _⟩, ⟨gB BK297⟩, ⟨bh HB⟩⟩
 case rest =>
  clear HC3
  obtain ⟨kq, x13_2, rfl, HA, HJ2, BK297, HB⟩ := hcut
  cases kq with
  | zero => exact absurd HA.out (by simp [Fd.j0])
  | succ kj2 =>
   have H := HA.out
   clear HA
   simp only [Fd.j0] at H
   by_cases c6 : x13_2 = true
   ·
    subst c6
    rw [if_pos rfl] at H
    simp only [Option.some.injEq, Prod.mk.injEq] at H
    obtain ⟨rfl, rfl, rfl, rfl⟩ := H
    obtain ⟨z7_0, z7_1, z7_2, y7_0, y7_1, y7_2⟩ := bx3 BK297
    go_wp2
    refine bodyPost_ret (results_ct rfl _ _ gb297 111 #[.int .i64 0, .int .i64 0, .int .i64 0] (0, 0) _ rfl (gP BK297 rfl) Try.underlying111 rfl (by kernel_rfl)) rfl ?_
    exact ⟨fe, bh HB⟩
   replace c6 := Bool.eq_false_iff.mpr c6
   subst c6
   rw [if_neg (show ¬ (false = true) by decide)] at H
   have H' := am_ H
   clear H
   go_wp2
   go_loopg [6] kj2 (fun kq v6 w' => ∃ (x6_2 : Int) (x298000_2 : Int) (x298001_2 : Int) (x298002_2 : Int), v6 = .int .i64 x6_2 ∧ Asc (Fd.l0 kq l0 a1 x6_2 = some (r1, r2, r3, r4)) ∧ Asc (kq ≤ kj2) ∧ Asc (w'.heap[gb297]? = some (.cells #[.int .i64 x298000_2, .int .i64 x298001_2, .int .i64 x298002_2] 111 (0, 0))) ∧ Asc (Below w.heap.size w w'))
   case atStart => exact ⟨(0), (0), (0), (0), fr, H', ⟨Nat.le_refl _⟩, ⟨gB BK297⟩, ⟨bh HB⟩⟩
   case round =>
    clear H'
    try clear c6
    obtain ⟨x6_2, x298000_2, x298001_2, x298002_2, rfl, HA, HK2, BK297, HB⟩ := hrel
    cases gk with
    | zero => exact absurd HA.out (by simp [Fd.l0])
    | succ k2 =>
     have H := HA.out
     clear HA
     simp only [Fd.l0] at H
     by_cases c8 : x6_2 < (l0.length : Int)
     ·
      rw [if_pos c8] at H
      have c8b0 : decide (x6_2 < (l0.length : Int)) = true := decide_eq_true c8
      clear c8
      revert H
      refine gi (fun c9b0 H => ?_)
      replace H := Option.bind_eq_some_iff.mp H
      obtain ⟨t299, A100, H⟩ := H
      replace H : (if t299 = true then (Fd.l0 k2 l0 a1 (wrap64 (x6_2 + 1))) else (some (0, 0, 0, 1))) = some (r1, r2, r3, r4) := H
      have A10 := am_ A100
      clear A100
      by_cases c11 : t299 = true
      ·
       subst c11
       rw [if_pos rfl] at H
       have H' := am_ H
       clear H
       have p298 : 0 ≤ (x6_2 : Int) := dt
       have q298 : x6_2 < (l0.length : Int) := dt
       obtain ⟨ad298, e298, hx298_0, hx298_1⟩ := at_T33 HR0.out x6_2 p298 q298
       cases e298
       replace hx298_0 := ce HB hx298_0
       replace hx298_1 := ce HB hx298_1
       replace p298 := eq_true p298
       replace q298 := eq_true q298
       go_wp2_with (first | ((with_reducible refine gate_callee (f := 110) rfl ?_); refine gl_ (some 25) Try.func110 #[.agg #[.int .i64 ((rd_T33 l0 x6_2).f0), .int .i64 ((rd_T33 l0 x6_2).f1)]] ?_; (with_reducible refine (F9.calls ((rd_T33 l0 x6_2).f0) ((rd_T33 l0 x6_2).f1) true _ A10.out).mono ?_); rintro e w12 ⟨rfl, hb⟩; refine ⟨_, rfl, ?_⟩; replace BK297 := tBb BK297 hb; replace HB := tHb HB hb; (try clear hb)))
       go_roundg k2
       case measure => have := HJ2.out; have := HK2.out; omega
       case rel => exact ⟨(wrap64 (x6_2 + 1)), (x298000_2), (x298001_2), (x298002_2), fr, H', ⟨by have := HJ2.out; have := HK2.out; omega⟩, ⟨gB BK297⟩, ⟨bh HB⟩⟩
      replace c11 := Bool.eq_false_iff.mpr c11
      subst c11
      rw [if_neg (show ¬ (false = true) by decide)] at H
      simp only [Option.some.injEq, Prod.mk.injEq] at H
      obtain ⟨rfl, rfl, rfl, rfl⟩ := H
      have p298 : 0 ≤ (x6_2 : Int) := dt
      have q298 : x6_2 < (l0.length : Int) := dt
      obtain ⟨ad298, e298, hx298_0, hx298_1⟩ := at_T33 HR0.out x6_2 p298 q298
      cases e298
      replace hx298_0 := ce HB hx298_0
      replace hx298_1 := ce HB hx298_1
      replace p298 := eq_true p298
      replace q298 := eq_true q298
      go_wp2_with (first | ((with_reducible refine gate_callee (f := 110) rfl ?_); refine gl_ (some 25) Try.func110 #[.agg #[.int .i64 ((rd_T33 l0 x6_2).f0), .int .i64 ((rd_T33 l0 x6_2).f1)]] ?_; (with_reducible refine (F9.calls ((rd_T33 l0 x6_2).f0) ((rd_T33 l0 x6_2).f1) false _ A10.out).mono ?_); rintro e w13 ⟨rfl, hb⟩; refine ⟨_, rfl, ?_⟩; replace BK297 := tBb BK297 hb; replace HB := tHb HB hb; (try clear hb); obtain ⟨z14_0, z14_1, z14_2, y14_0, y14_1, y14_2⟩ := bx3 BK297))
      refine bodyPost_ret (results_ct rfl _ _ gb297 111 #[.int .i64 0, .int .i64 0, .int .i64 0] (0, 0) _ rfl (gP BK297 rfl) Try.underlying111 rfl (by kernel_rfl)) rfl ?_
      exact ⟨fe, bh HB⟩
     rw [if_neg c8] at H
     have c8b0 : decide (x6_2 < (l0.length : Int)) = false := decide_eq_false c8
     clear c8
     replace H := Option.bind_eq_some_iff.mp H
     obtain ⟨⟨t300, t301⟩, A150, H⟩ := H
     replace H : (some (a1, t300, t301, 0)) = some (r1, r2, r3, r4) := H
     have A15 := am_ A150
     clear A150
     simp only [Option.some.injEq, Prod.mk.injEq] at H
     obtain ⟨rfl, rfl, rfl, rfl⟩ := H
     go_wp2_with (first | ((with_reducible refine gate_callee (f := 111) rfl ?_); refine gl_ (some 33) Try.func111 #[.slice A0 l0.length c0, .agg #[.int .i64 a1, .int .i64 0]] ?_; (with_reducible refine (Ff.calls k2 _ _ l0 a1 0 t300 t301 _ ?side1 ?side2 A15.out).mono ?_); (case side1 => exact gCB HR0 HB); (case side2 => exact HC0.out); rintro e w16 ⟨rfl, hb⟩; refine ⟨_, rfl, ?_⟩; replace BK297 := tBb BK297 hb; replace HB := tHb HB hb; (try clear hb); obtain ⟨z17_0, z17_1, z17_2, y17_0, y17_1, y17_2⟩ := bx3 BK297))
     refine bodyPost_ret (results_ct rfl _ _ gb297 111 #[.int .i64 a1, .int .i64 t300, .int .i64 t301] (0, 0) _ rfl (gP BK297 rfl) Try.underlying111 rfl (by kernel_rfl)) rfl ?_
     exact ⟨fe, bh HB⟩

def Fw.f (a0 : Int) : Option (Bool) := if a0 = 4 then (some true) else (if a0 > 4 then (if a0 ≤ 64 then (some ((Int.tmod (wrap64 (a0 - 1)) 3) == 0)) else (some false)) else (some false))
set_option maxHeartbeats 8000000 in
set_option maxRecDepth 100000 in
theorem Fw.calls (a0 : Int) (r : Bool) (w : World) (h : Fw.f a0 = some r) :
  Calls Try.prog 58 #[.int .i64 a0] w fun e w' => e = .returned (.bool r) ∧ Drawn0 w w' := by
 have H : (if a0 = 4 then (some true) else (if a0 > 4 then (if a0 ≤ 64 then (some ((Int.tmod (wrap64 (a0 - 1)) 3) == 0)) else (some false)) else (some false))) = some r := h
 clear h
 by_cases c2 : a0 = 4
 ·
  rw [if_pos c2] at H
  have c2b0 : (a0 == 4) = true := beq_iff_eq.mpr c2
  have c2b1 : (a0 != 4) = false := bne_eq_false_iff_eq.mpr c2
  clear c2
  obtain rfl := Option.some.inj H
  go_enter Try.func58, Try.ntmps58
  go_wp2
  go_ret
  exact ⟨fr, by repeat (first | exact Drawn0.refl _ | apply Drawn0.step)⟩
 rw [if_neg c2] at H
 have c2b0 : (a0 == 4) = false := beq_eq_false_iff_ne.mpr c2
 have c2b1 : (a0 != 4) = true := bne_iff_ne.mpr c2
 by_cases c3 : a0 > 4
 ·
  rw [if_pos c3] at H
  have c3b0 : decide (4 < a0) = true := decide_eq_true c3
  clear c3
  by_cases c4 : a0 ≤ 64
  ·
   rw [if_pos c4] at H
   have c4b0 : decide (a0 ≤ 64) = true := decide_eq_true c4
   clear c4
   obtain rfl := Option.some.inj H
   go_enter Try.func58, Try.ntmps58
   go_wp2
   go_ret
   exact ⟨fr, by repeat (first | exact Drawn0.refl _ | apply Drawn0.step)⟩
  rw [if_neg c4] at H
  have c4b0 : decide (a0 ≤ 64) = false := decide_eq_false c4
  clear c4
  obtain rfl := Option.some.inj H
  go_enter Try.func58, Try.ntmps58
  go_wp2
  go_ret
  exact ⟨fr, by repeat (first | exact Drawn0.refl _ | apply Drawn0.step)⟩
 rw [if_neg c3] at H
 have c3b0 : decide (4 < a0) = false := decide_eq_false c3
 clear c3
 obtain rfl := Option.some.inj H
 go_enter Try.func58, Try.ntmps58
 go_wp2
 go_ret
 exact ⟨fr, by repeat (first | exact Drawn0.refl _ | apply Drawn0.step)⟩

def G4.f (a0 : ByteArray) : Option ByteArray := if a0.size ≤ 140737488351232 then some (Sm.sumB a0) else none
theorem G4.calls (a0 : ByteArray) (r : ByteArray) (w : World) (h : G4.f a0 = some r) :
  Calls Try.prog 88 #[.string a0] w fun e w' => e = .returned (.string r) ∧ Below w.heap.size w w' := by
 unfold G4.f at h
 by_cases hs : a0.size ≤ 140737488351232
 ·
  rw [if_pos hs] at h
  obtain rfl := Option.some.inj h
  exact Sa.rsum_c a0 hs w
 rw [if_neg hs] at h; cases h

def Fb.f (a0 : Int) : Option ByteArray := if 0 ≤ a0 ∧ a0 < 18446744073709551616 then some (Sa.numB a0.toNat) else none
theorem Fb.calls (a0 : Int) (r : ByteArray) (w : World) (h : Fb.f a0 = some r) :
  Calls Try.prog 105 #[.int .u64 a0] w fun e w' => e = .returned (.string r) ∧ Below w.heap.size w w' := by
 unfold Fb.f at h
 by_cases hs : 0 ≤ a0 ∧ a0 < 18446744073709551616
 ·
  rw [if_pos hs] at h
  obtain rfl := Option.some.inj h
  have k := Sa.rnum_c a0.toNat (by omega) w
  rw [show ((a0.toNat : Nat) : Int) = a0 from by omega] at k
  exact k
 rw [if_neg hs] at h; cases h

def Gl.f (a0 : Int) : Option (Int) := (Fw.f a0).bind fun t302 => (if t302 = true then (some (wrap64 ((wrap64 (Int.tdiv (wrap64 (a0 - 1)) 3)) + 1))) else (some 0))
set_option maxHeartbeats 8000000 in
set_option maxRecDepth 100000 in
theorem Gl.calls (a0 : Int) (r : Int) (w : World) (h : Gl.f a0 = some r) :
  Calls Try.prog 112 #[.int .i64 a0] w fun e w' => e = .returned (.int .i64 r) ∧ Drawn0 w w' := by
 have H : ((Fw.f a0).bind fun t302 => (if t302 = true then (some (wrap64 ((wrap64 (Int.tdiv (wrap64 (a0 - 1)) 3)) + 1))) else (some 0))) = some r := h
 clear h
 replace H := Option.bind_eq_some_iff.mp H
 obtain ⟨t302, A20, H⟩ := H
 replace H : (if t302 = true then (some (wrap64 ((wrap64 (Int.tdiv (wrap64 (a0 - 1)) 3)) + 1))) else (some 0)) = some r := H
 have A2 := am_ A20
 clear A20
 by_cases c3 : t302 = true
 ·
  subst c3
  rw [if_pos rfl] at H
  obtain rfl := Option.some.inj H
  go_enter Try.func112, Try.ntmps112
  go_wp2_with (first | ((with_reducible refine gate_callee (f := 58) rfl ?_); refine gl_ (some 5) Try.func58 #[.int .i64 a0] ?_; (with_reducible refine (Fw.calls a0 true _ A2.out).mono ?_); rintro e w' ⟨rfl, ⟨nd, rfl⟩⟩; refine ⟨_, rfl, ?_⟩))
  go_ret
  exact ⟨fr, by repeat (first | exact Drawn0.refl _ | apply Drawn0.step)⟩
 replace c3 := Bool.eq_false_iff.mpr c3
 subst c3
 rw [if_neg (show ¬ (false = true) by decide)] at H
 obtain rfl := Option.some.inj H
 go_enter Try.func112, Try.ntmps112
 go_wp2_with (first | ((with_reducible refine gate_callee (f := 58) rfl ?_); refine gl_ (some 5) Try.func58 #[.int .i64 a0] ?_; (with_reducible refine (Fw.calls a0 false _ A2.out).mono ?_); rintro e w' ⟨rfl, ⟨nd, rfl⟩⟩; refine ⟨_, rfl, ?_⟩))
 go_ret
 exact ⟨fr, by repeat (first | exact Drawn0.refl _ | apply Drawn0.step)⟩

def Gi.f (a0 : ByteArray) : Option ByteArray := if a0.size ≤ 140737488351232 then some (Sa.textB a0) else none
theorem Gi.calls (a0 : ByteArray) (r : ByteArray) (w : World) (h : Gi.f a0 = some r) :
  Calls Try.prog 113 #[.string a0] w fun e w' => e = .returned (.string r) ∧ Below w.heap.size w w' := by
 unfold Gi.f at h
 by_cases hs : a0.size ≤ 140737488351232
 ·
  rw [if_pos hs] at h
  obtain rfl := Option.some.inj h
  exact Sa.rtext_c a0 hs w
 rw [if_neg hs] at h; cases h

def Fc.l0 : Nat → ByteArray → Int → Int → Int → Option (Int)
 | 0, _, _, _, _ => none
 | k + 1, x0, x1, x5, x6 => if x6 < (wrap64 (x1 + 4)) then (if 0 ≤ x6 then (if x6 < (x0.size : Int) then (Fc.l0 k x0 x1 (wrap64 ((wrap64 (x5 * 256)) + (wrap64 (bt x0 x6)))) (wrap64 (x6 + 1))) else (none)) else (none)) else (some (Int.tmod x5 10007))
def Fc.f (k : Nat) (a0 : ByteArray) (a1 : Int) : Option (Int) := Fc.l0 k a0 a1 0 a1
theorem Fc.mono_l : ∀ k, (∀ y0 y1 y2 y3, LeO (Fc.l0 k y0 y1 y2 y3) (Fc.l0 (k + 1) y0 y1 y2 y3))
 | 0 => fun _ _ _ _ r h => by simp [Fc.l0] at h
 | k + 1 => by
  have ih0 := Fc.mono_l k
  ·
   intro y0 y1 y2 y3
   unfold Fc.l0
   repeat' first | (with_reducible first | exact ih0 _ _ _ _ | exact LeO.refl _ | exact LeO.none _ | refine LeO.ite ?_ ?_ | refine LeO.bind ?_ (fun _ => ?_)) | exact ih0 _ _ _ _ | refine LeO.ite ?_ ?_ | refine LeO.bind ?_ (fun _ => ?_)
theorem Fc.mono : ∀ a0 a1 k, LeO (Fc.f k a0 a1) (Fc.f (k + 1) a0 a1) := by
 intro a0 a1 k
 have ih0 := Fc.mono_l k
 unfold Fc.f
 repeat' first | (with_reducible first | exact ih0 _ _ _ _ | exact LeO.refl _ | exact LeO.none _ | refine LeO.ite ?_ ?_ | refine LeO.bind ?_ (fun _ => ?_)) | exact ih0 _ _ _ _ | refine LeO.ite ?_ ?_ | refine LeO.bind ?_ (fun _ => ?_)
set_option maxHeartbeats 8000000 in
set_option maxRecDepth 100000 in
theorem Fc.calls (k : Nat) (a0 : ByteArray) (a1 : Int) (r : Int) (w : World) (h : Fc.f k a0 a1 = some r) :
  Calls Try.prog 114 #[.string a0, .int .i64 a1] w fun e w' => e = .returned (.int .i64 r) ∧ Drawn0 w w' := by
 have H : (Fc.l0 k a0 a1 0 a1) = some r := h
 clear h
 have H' := am_ H
 clear H
 go_enter Try.func114, Try.ntmps114
 go_wp2
 go_loopg [5, 6] k (fun kq v5 v6 w' => ∃ (x5_1 : Int) (x6_1 : Int), v5 = .int .i64 x5_1 ∧ v6 = .int .i64 x6_1 ∧ Asc (Fc.l0 kq a0 a1 x5_1 x6_1 = some r) ∧ Asc (kq ≤ k) ∧ Drawn0 w w')
 case atStart => exact ⟨(0), (a1), fr, fr, H', ⟨Nat.le_refl _⟩, by repeat (first | exact Drawn0.refl _ | apply Drawn0.step)⟩
 case round =>
  clear H'
  obtain ⟨x5_1, x6_1, rfl, rfl, HA, HK1, ⟨m1, rfl⟩⟩ := hrel
  cases gk with
  | zero => exact absurd HA.out (by simp [Fc.l0])
  | succ k1 =>
   have H := HA.out
   clear HA
   simp only [Fc.l0] at H
   by_cases c3 : x6_1 < (wrap64 (a1 + 4))
   ·
    rw [if_pos c3] at H
    have c3b0 : decide (x6_1 < (wrap64 (a1 + 4))) = true := decide_eq_true c3
    clear c3
    revert H
    refine gi (fun c4b0 H => ?_)
    revert H
    refine gi (fun c5b0 H => ?_)
    have H' := am_ H
    clear H
    have p6 : 0 ≤ (x6_1 : Int) := dt
    have q6 : x6_1 < (a0.size : Int) := dt
    have hx6 := bt_at a0 x6_1
    replace p6 := eq_true p6
    replace q6 := eq_true q6
    go_wp2
    go_roundg k1
    case measure => have := HK1.out; omega
    case rel => exact ⟨(wrap64 ((wrap64 (x5_1 * 256)) + (wrap64 (bt a0 x6_1)))), (wrap64 (x6_1 + 1)), fr, fr, H', kS HK1, by repeat (first | exact Drawn0.refl _ | apply Drawn0.step)⟩
   rw [if_neg c3] at H
   have c3b0 : decide (x6_1 < (wrap64 (a1 + 4))) = false := decide_eq_false c3
   clear c3
   obtain rfl := Option.some.inj H
   go_wp2
   go_ret
   exact ⟨fr, by repeat (first | exact Drawn0.refl _ | apply Drawn0.step)⟩

mutual
def F5.j0 : Nat → ByteArray → Int → Int → Bool → Option ((List (S33)))
 | 0, _, _, _, _ => none
 | k + 1, x0, x1, x2, x18 => if x18 = true then (some ([] : List (S33))) else (F5.l0 k x0 x1 x2 ([] : List (S33)) 0)
def F5.l0 : Nat → ByteArray → Int → Int → List (S33) → Int → Option ((List (S33)))
 | 0, _, _, _, _, _ => none
 | k + 1, x0, x1, x2, x8, x9 => (Gl.f x2).bind fun t304 => (if x9 < t304 then ((Gi.f x0).bind fun t305 => (if 1 + t305.size ≤ 9223372036854775807 then ((Fb.f (IntKind.u64.wrap (x1))).bind fun t306 => (if ((⟨#[99]⟩ : ByteArray) ++ t305).size + t306.size ≤ 9223372036854775807 then ((Fb.f (IntKind.u64.wrap (x9))).bind fun t307 => (if (((⟨#[99]⟩ : ByteArray) ++ t305) ++ t306).size + t307.size ≤ 9223372036854775807 then ((G4.f ((((⟨#[99]⟩ : ByteArray) ++ t305) ++ t306) ++ t307)).bind fun t308 => ((Fc.f k t308 0).bind fun t309 => ((Fc.f k t308 4).bind fun t310 => (if x8.length < 8796093022208 then (F5.l0 k x0 x1 x2 (x8 ++ [(⟨t309, t310⟩ : S33)]) (wrap64 (x9 + 1))) else (none))))) else (none))) else (none))) else (none))) else (some x8))
end
def F5.f (k : Nat) (a0 : ByteArray) (a1 : Int) (a2 : Int) : Option ((List (S33))) := (Fw.f a2).bind fun t303 => (if a1 < 1 then (F5.j0 k a0 a1 a2 true) else (F5.j0 k a0 a1 a2 (!t303)))
theorem F5.mono_l : ∀ k, (∀ y0 y1 y2 y3, LeO (F5.j0 k y0 y1 y2 y3) (F5.j0 (k + 1) y0 y1 y2 y3)) ∧ (∀ y0 y1 y2 y3 y4, LeO (F5.l0 k y0 y1 y2 y3 y4) (F5.l0 (k + 1) y0 y1 y2 y3 y4))
 | 0 => ⟨fun _ _ _ _ r h => by simp [F5.j0] at h, fun _ _ _ _ _ r h => by simp [F5.l0] at h⟩
 | k + 1 => by
  obtain ⟨ih0, ih1⟩ := F5.mono_l k
  refine ⟨?_, ?_⟩
  ·
   intro y0 y1 y2 y3
   unfold F5.j0
   repeat' first | (with_reducible first | exact ih0 _ _ _ _ | exact ih1 _ _ _ _ _ | exact Fc.mono _ _ _ | exact LeO.refl _ | exact LeO.none _ | refine LeO.ite ?_ ?_ | refine LeO.bind ?_ (fun _ => ?_)) | exact ih0 _ _ _ _ | exact ih1 _ _ _ _ _ | refine LeO.ite ?_ ?_ | refine LeO.bind ?_ (fun _ => ?_)
  intro y0 y1 y2 y3 y4
  unfold F5.l0
  repeat' first | (with_reducible first | exact ih0 _ _ _ _ | exact ih1 _ _ _ _ _ | exact Fc.mono _ _ _ | exact LeO.refl _ | exact LeO.none _ | refine LeO.ite ?_ ?_ | refine LeO.bind ?_ (fun _ => ?_)) | exact ih0 _ _ _ _ | exact ih1 _ _ _ _ _ | refine LeO.ite ?_ ?_ | refine LeO.bind ?_ (fun _ => ?_)
theorem F5.mono : ∀ a0 a1 a2 k, LeO (F5.f k a0 a1 a2) (F5.f (k + 1) a0 a1 a2) := by
 intro a0 a1 a2 k
 obtain ⟨ih0, ih1⟩ := F5.mono_l k
 unfold F5.f
 repeat' first | (with_reducible first | exact ih0 _ _ _ _ | exact ih1 _ _ _ _ _ | exact Fc.mono _ _ _ | exact LeO.refl _ | exact LeO.none _ | refine LeO.ite ?_ ?_ | refine LeO.bind ?_ (fun _ => ?_)) | exact ih0 _ _ _ _ | exact ih1 _ _ _ _ _ | refine LeO.ite ?_ ?_ | refine LeO.bind ?_ (fun _ => ?_)
set_option maxHeartbeats 8000000 in
set_option maxRecDepth 100000 in
theorem F5.calls (k : Nat) (a0 : ByteArray) (a1 : Int) (a2 : Int) (r : List (S33)) (w : World) (h : F5.f k a0 a1 a2 = some r) :
  Calls Try.prog 90 #[.string a0, .int .i64 a1, .int .i64 a2] w fun e w' => ∃ v0_ : Value, e = .returned (v0_) ∧ Kd.R k33 33 w' w.heap.size (fun _ => True) v0_ r ∧ Below w.heap.size w w' := by
 have hu33 := Try.underlying33
 have HB := am_ (Below.refl w.heap.size w)
 have H : ((Fw.f a2).bind fun t303 => (if a1 < 1 then (F5.j0 k a0 a1 a2 true) else (F5.j0 k a0 a1 a2 (!t303)))) = some r := h
 clear h
 replace H := Option.bind_eq_some_iff.mp H
 obtain ⟨t303, A40, H⟩ := H
 replace H : (if a1 < 1 then (F5.j0 k a0 a1 a2 true) else (F5.j0 k a0 a1 a2 (!t303))) = some r := H
 have A4 := am_ A40
 clear A40
 have HC5 := am_ H
 clear H
 go_enter Try.func90, Try.ntmps90
 go_upto_region 2 with (first | ((with_reducible refine gate_callee (f := 58) rfl ?_); refine gl_ (some 12) Try.func58 #[.int .i64 a2] ?_; (with_reducible refine (Fw.calls a2 t303 _ A4.out).mono ?_); rintro e w' ⟨rfl, ⟨nd, rfl⟩⟩; refine ⟨_, rfl, ?_⟩))
 (try simp only [Act.put, List.setIfInBounds_toArray, List.set_cons_zero, List.set_cons_succ])
 go_cut [18] (fun v18 wc => ∃ (kq : Nat) (x18_4 : Bool), v18 = .bool x18_4 ∧ Asc (F5.j0 kq a0 a1 a2 x18_4 = some r) ∧ Asc (kq ≤ k) ∧ Asc (Below w.heap.size w wc))
 case first =>
  have H := HC5.out
  clear HC5
  by_cases c6 : a1 < 1
  ·
   rw [if_pos c6] at H
   have c6b0 : decide (a1 < 1) = true := decide_eq_true c6
   clear c6
   (first | rw [c6b0] | (simp only [i64_w, i32_w]; rw [c6b0]) | skip)
   have H' := am_ H
   clear H
   go_wp2
   go_meet
   case rel => exact ⟨_, (true), fr, H', ⟨by first | omega | exact Nat.le_refl _⟩, ⟨bh HB⟩⟩
  rw [if_neg c6] at H
  have c6b0 : decide (a1 < 1) = false := decide_eq_false c6
  clear c6
  (first | rw [c6b0] | (simp only [i64_w, i32_w]; rw [c6b0]) | skip)
  have H' := am_ H
  clear H
  go_wp2
  go_meet
  case rel => exact ⟨_, (!t303), fr, H', ⟨by first | omega | exact Nat.le_refl _⟩, ⟨bh HB⟩⟩
 case rest =>
  clear HC5
  obtain ⟨kq, x18_4, rfl, HA, HJ4, HB⟩ := hcut
  cases kq with
  | zero => exact absurd HA.out (by simp [F5.j0])
  | succ kj4 =>
   have H := HA.out
   clear HA
   simp only [F5.j0] at H
   by_cases c7 : x18_4 = true
   ·
    subst c7
    rw [if_pos rfl] at H
    obtain rfl := Option.some.inj H
    go_wp2
    go_ret
    exact ⟨_, fe, kn, bh HB⟩
   replace c7 := Bool.eq_false_iff.mpr c7
   subst c7
   rw [if_neg (show ¬ (false = true) by decide)] at H
   have H' := am_ H
   clear H
   go_wp2
   go_loopg [8, 9] kj4 (fun kq v8 v9 w' => ∃ (x8_2 : List (S33)) (x9_2 : Int), v9 = .int .i64 x9_2 ∧ Asc (F5.l0 kq a0 a1 a2 x8_2 x9_2 = some r) ∧ Asc (kq ≤ kj4) ∧ Asc (Kd.R k33 33 w' w.heap.size (fun _ => True) v8 x8_2) ∧ Asc (Below w.heap.size w w'))
   case atStart => exact ⟨(([] : List (S33))), (0), fr, H', ⟨Nat.le_refl _⟩, ⟨kn⟩, ⟨bh HB⟩⟩
   case round =>
    clear H'
    try clear c7
    obtain ⟨x8_2, x9_2, rfl, HA, HK2, HO_8, HB⟩ := hrel
    cases gk with
    | zero => exact absurd HA.out (by simp [F5.l0])
    | succ k2 =>
     have H := HA.out
     clear HA
     simp only [F5.l0] at H
     replace H := Option.bind_eq_some_iff.mp H
     obtain ⟨t304, A80, H⟩ := H
     replace H : (if x9_2 < t304 then ((Gi.f a0).bind fun t305 => (if 1 + t305.size ≤ 9223372036854775807 then ((Fb.f (IntKind.u64.wrap (a1))).bind fun t306 => (if ((⟨#[99]⟩ : ByteArray) ++ t305).size + t306.size ≤ 9223372036854775807 then ((Fb.f (IntKind.u64.wrap (x9_2))).bind fun t307 => (if (((⟨#[99]⟩ : ByteArray) ++ t305) ++ t306).size + t307.size ≤ 9223372036854775807 then ((G4.f ((((⟨#[99]⟩ : ByteArray) ++ t305) ++ t306) ++ t307)).bind fun t308 => ((Fc.f k2 t308 0).bind fun t309 => ((Fc.f k2 t308 4).bind fun t310 => (if x8_2.length < 8796093022208 then (F5.l0 k2 a0 a1 a2 (x8_2 ++ [(⟨t309, t310⟩ : S33)]) (wrap64 (x9_2 + 1))) else (none))))) else (none))) else (none))) else (none))) else (some x8_2)) = some r := H
     have A8 := am_ A80
     clear A80
     by_cases c9 : x9_2 < t304
     ·
      rw [if_pos c9] at H
      have c9b0 : decide (x9_2 < t304) = true := decide_eq_true c9
      clear c9
      replace H := Option.bind_eq_some_iff.mp H
      obtain ⟨t305, A100, H⟩ := H
      replace H : (if 1 + t305.size ≤ 9223372036854775807 then ((Fb.f (IntKind.u64.wrap (a1))).bind fun t306 => (if ((⟨#[99]⟩ : ByteArray) ++ t305).size + t306.size ≤ 9223372036854775807 then ((Fb.f (IntKind.u64.wrap (x9_2))).bind fun t307 => (if (((⟨#[99]⟩ : ByteArray) ++ t305) ++ t306).size + t307.size ≤ 9223372036854775807 then ((G4.f ((((⟨#[99]⟩ : ByteArray) ++ t305) ++ t306) ++ t307)).bind fun t308 => ((Fc.f k2 t308 0).bind fun t309 => ((Fc.f k2 t308 4).bind fun t310 => (if x8_2.length < 8796093022208 then (F5.l0 k2 a0 a1 a2 (x8_2 ++ [(⟨t309, t310⟩ : S33)]) (wrap64 (x9_2 + 1))) else (none))))) else (none))) else (none))) else (none)) = some r := H
      have A10 := am_ A100
      clear A100
      revert H
      refine gi' (fun c11 H => ?_)
      have c11b0 := eq_true c11
      have c11b1 : decide (1 + t305.size ≤ 9223372036854775807) = true := decide_eq_true c11
      try have c11b2 : (9223372036854775807 < 1 + t305.size) = False := eq_false (Nat.not_lt.2 c11)
      replace H := Option.bind_eq_some_iff.mp H
      obtain ⟨t306, A120, H⟩ := H
      replace H : (if ((⟨#[99]⟩ : ByteArray) ++ t305).size + t306.size ≤ 9223372036854775807 then ((Fb.f (IntKind.u64.wrap (x9_2))).bind fun t307 => (if (((⟨#[99]⟩ : ByteArray) ++ t305) ++ t306).size + t307.size ≤ 9223372036854775807 then ((G4.f ((((⟨#[99]⟩ : ByteArray) ++ t305) ++ t306) ++ t307)).bind fun t308 => ((Fc.f k2 t308 0).bind fun t309 => ((Fc.f k2 t308 4).bind fun t310 => (if x8_2.length < 8796093022208 then (F5.l0 k2 a0 a1 a2 (x8_2 ++ [(⟨t309, t310⟩ : S33)]) (wrap64 (x9_2 + 1))) else (none))))) else (none))) else (none)) = some r := H
      have A12 := am_ A120
      clear A120
      revert H
      refine gi' (fun c13 H => ?_)
      have c13b0 := eq_true c13
      have c13b1 : decide (((⟨#[99]⟩ : ByteArray) ++ t305).size + t306.size ≤ 9223372036854775807) = true := decide_eq_true c13
      have c13u := c13
      (try simp only [ByteArray.size_append] at c13u)
      (try simp only [show ∀ x : UInt8, (⟨#[x]⟩ : ByteArray).size = 1 from fun _ => rfl] at c13u)
      have c13v := eq_false (Nat.not_lt.2 c13u)
      replace c13u := eq_true c13u
      try have c13b2 : (9223372036854775807 < ((⟨#[99]⟩ : ByteArray) ++ t305).size + t306.size) = False := eq_false (Nat.not_lt.2 c13)
      replace H := Option.bind_eq_some_iff.mp H
      obtain ⟨t307, A140, H⟩ := H
      replace H : (if (((⟨#[99]⟩ : ByteArray) ++ t305) ++ t306).size + t307.size ≤ 9223372036854775807 then ((G4.f ((((⟨#[99]⟩ : ByteArray) ++ t305) ++ t306) ++ t307)).bind fun t308 => ((Fc.f k2 t308 0).bind fun t309 => ((Fc.f k2 t308 4).bind fun t310 => (if x8_2.length < 8796093022208 then (F5.l0 k2 a0 a1 a2 (x8_2 ++ [(⟨t309, t310⟩ : S33)]) (wrap64 (x9_2 + 1))) else (none))))) else (none)) = some r := H
      have A14 := am_ A140
      clear A140
      revert H
      refine gi' (fun c15 H => ?_)
      have c15b0 := eq_true c15
      have c15b1 : decide ((((⟨#[99]⟩ : ByteArray) ++ t305) ++ t306).size + t307.size ≤ 9223372036854775807) = true := decide_eq_true c15
      have c15u := c15
      (try simp only [ByteArray.size_append] at c15u)
      (try simp only [show ∀ x : UInt8, (⟨#[x]⟩ : ByteArray).size = 1 from fun _ => rfl] at c15u)
      have c15v := eq_false (Nat.not_lt.2 c15u)
      replace c15u := eq_true c15u
      try have c15b2 : (9223372036854775807 < (((⟨#[99]⟩ : ByteArray) ++ t305) ++ t306).size + t307.size) = False := eq_false (Nat.not_lt.2 c15)
      replace H := Option.bind_eq_some_iff.mp H
      obtain ⟨t308, A160, H⟩ := H
      replace H : ((Fc.f k2 t308 0).bind fun t309 => ((Fc.f k2 t308 4).bind fun t310 => (if x8_2.length < 8796093022208 then (F5.l0 k2 a0 a1 a2 (x8_2 ++ [(⟨t309, t310⟩ : S33)]) (wrap64 (x9_2 + 1))) else (none)))) = some r := H
      have A16 := am_ A160
      clear A160
      replace H := Option.bind_eq_some_iff.mp H
      obtain ⟨t309, A170, H⟩ := H
      replace H : ((Fc.f k2 t308 4).bind fun t310 => (if x8_2.length < 8796093022208 then (F5.l0 k2 a0 a1 a2 (x8_2 ++ [(⟨t309, t310⟩ : S33)]) (wrap64 (x9_2 + 1))) else (none))) = some r := H
      have A17 := am_ A170
      clear A170
      replace H := Option.bind_eq_some_iff.mp H
      obtain ⟨t310, A180, H⟩ := H
      replace H : (if x8_2.length < 8796093022208 then (F5.l0 k2 a0 a1 a2 (x8_2 ++ [(⟨t309, t310⟩ : S33)]) (wrap64 (x9_2 + 1))) else (none)) = some r := H
      have A18 := am_ A180
      clear A180
      revert H
      refine gi' (fun c19 H => ?_)
      have LMc19 := am_ c19
      clear c19
      obtain ⟨y311, hy311⟩ : ∃ y_ : List (S33), y_ = (x8_2 ++ [(⟨t309, t310⟩ : S33)]) := ⟨_, rfl⟩
      replace H : (F5.l0 k2 a0 a1 a2 y311 (wrap64 (x9_2 + 1))) = some r := by first | (rw [hy311]; with_reducible exact H) | (have H := (Option.bind_some _ _).symm.trans H; first | (rw [hy311]; with_reducible exact H) | with_reducible exact H) | with_reducible exact H | (rw [hy311]; exact H) | exact H
      have Ny311 := am_ hy311
      clear hy311
      have H' := am_ H
      clear H
      go_wp2_with (first | ((with_reducible refine gate_callee (f := 112) rfl ?_); refine gl_ (some 21) Try.func112 #[.int .i64 a2] ?_; (with_reducible refine (Gl.calls a2 t304 _ A8.out).mono ?_); rintro e w' ⟨rfl, ⟨nd, rfl⟩⟩; refine ⟨_, rfl, ?_⟩) | ((with_reducible refine gate_callee (f := 113) rfl ?_); refine gl_ (some 26) Try.func113 #[.string a0] ?_; (with_reducible refine (Gi.calls a0 t305 _ A10.out).mono ?_); rintro e w20 ⟨rfl, hb⟩; refine ⟨_, rfl, ?_⟩; replace HO_8 := tRb HO_8 hb; replace HB := tHb HB hb; (try clear hb)) | ((with_reducible refine gate_callee (f := 105) rfl ?_); refine gl_ (some 30) Try.func105 #[.int .u64 (IntKind.u64.wrap (a1))] ?_; (with_reducible refine (Fb.calls (IntKind.u64.wrap (a1)) t306 _ A12.out).mono ?_); rintro e w21 ⟨rfl, hb⟩; refine ⟨_, rfl, ?_⟩; replace HO_8 := tRb HO_8 hb; replace HB := tHb HB hb; (try clear hb)) | ((with_reducible refine gate_callee (f := 105) rfl ?_); refine gl_ (some 34) Try.func105 #[.int .u64 (IntKind.u64.wrap (x9_2))] ?_; (with_reducible refine (Fb.calls (IntKind.u64.wrap (x9_2)) t307 _ A14.out).mono ?_); rintro e w22 ⟨rfl, hb⟩; refine ⟨_, rfl, ?_⟩; replace HO_8 := tRb HO_8 hb; replace HB := tHb HB hb; (try clear hb)) | ((with_reducible refine gate_callee (f := 88) rfl ?_); refine gl_ (some 36) Try.func88 #[.string ((((⟨#[99]⟩ : ByteArray) ++ t305) ++ t306) ++ t307)] ?_; (with_reducible refine (G4.calls ((((⟨#[99]⟩ : ByteArray) ++ t305) ++ t306) ++ t307) t308 _ A16.out).mono ?_); rintro e w23 ⟨rfl, hb⟩; refine ⟨_, rfl, ?_⟩; replace HO_8 := tRb HO_8 hb; replace HB := tHb HB hb; (try clear hb)) | ((with_reducible refine gate_callee (f := 114) rfl ?_); refine gl_ (some 39) Try.func114 #[.string t308, .int .i64 0] ?_; (with_reducible refine (Fc.calls k2 t308 0 t309 _ A17.out).mono ?_); rintro e w' ⟨rfl, ⟨nd, rfl⟩⟩; refine ⟨_, rfl, ?_⟩) | ((with_reducible refine gate_callee (f := 114) rfl ?_); refine gl_ (some 41) Try.func114 #[.string t308, .int .i64 4] ?_; (with_reducible refine (Fc.calls k2 t308 4 t310 _ A18.out).mono ?_); rintro e w' ⟨rfl, ⟨nd, rfl⟩⟩; refine ⟨_, rfl, ?_⟩) | ((with_reducible refine gate_builtin (b := .append) (xs := #[.tmp 37, .tmp 43]) rfl ?_); at_builtin; refine Kd.R_append k33 (w0 := w) w.heap.size rfl (.tmp 37) (.tmp 43) 114 33 (.agg #[(.int .i64 0), (.int .i64 0)]) 16 rfl Try.underlying114 info33 rfl (by decide) (by omega) u8 x8_2 (⟨t309, t310⟩ : S33) [.int .i64 t309, .int .i64 t310] (fun _ => True) (fun _ => False) rfl rfl ?aP (fun _ hk => hk.elim) ?aF ?aO ?aB ?aS ?aL ?_; (case aP => exact k33_mkM _ _ _ (⟨t309, t310⟩ : S33)); (case aB => exact (bh HB)); (case aF => exact (fun _ _ => trivial)); (case aO => exact (hR HO_8)); (case aS => exact (below_size (bh HB))); (case aL => have := LMc19.out; omega); intro v312 w24 ho hb hg hat; rw [← Ny311.out] at ho; replace HB := am_ hb; have HO313 := am_ (ho); clear HO_8 ho hb hg hat))
      go_roundg k2
      case measure => have := HJ4.out; have := HK2.out; omega
      case rel => exact ⟨(y311), (wrap64 (x9_2 + 1)), fr, H', ⟨by have := HJ4.out; have := HK2.out; omega⟩, ⟨hR HO313⟩, ⟨bh HB⟩⟩
     rw [if_neg c9] at H
     have c9b0 : decide (x9_2 < t304) = false := decide_eq_false c9
     clear c9
     obtain rfl := Option.some.inj H
     go_wp2_with (first | ((with_reducible refine gate_callee (f := 112) rfl ?_); refine gl_ (some 21) Try.func112 #[.int .i64 a2] ?_; (with_reducible refine (Gl.calls a2 t304 _ A8.out).mono ?_); rintro e w' ⟨rfl, ⟨nd, rfl⟩⟩; refine ⟨_, rfl, ?_⟩))
     go_ret
     exact ⟨_, fe, hR HO_8, bh HB⟩

def G5.f (k : Nat) (a0 : ByteArray) (a1 : Int) (a2 : Int) (a3 : Int) : Option (Int × Int) := (F5.f k a0 a1 a2).bind fun t315 => ((Fd.f k t315 a3).bind fun bt318 => (some (bt318.2.1, bt318.2.2.1)))
theorem G5.mono : ∀ a0 a1 a2 a3 k, LeO (G5.f k a0 a1 a2 a3) (G5.f (k + 1) a0 a1 a2 a3) := by
 intro a0 a1 a2 a3 k
 unfold G5.f
 repeat' first | (with_reducible first | exact Fd.mono _ _ _ | exact F5.mono _ _ _ _ | exact LeO.refl _ | exact LeO.none _ | refine LeO.ite ?_ ?_ | refine LeO.bind ?_ (fun _ => ?_)) | refine LeO.ite ?_ ?_ | refine LeO.bind ?_ (fun _ => ?_)
set_option maxHeartbeats 8000000 in
set_option maxRecDepth 100000 in
theorem G5.calls (k : Nat) (a0 : ByteArray) (a1 : Int) (a2 : Int) (a3 : Int) (r1 : Int) (r2 : Int) (w : World) (h : G5.f k a0 a1 a2 a3 = some (r1, r2)) :
  Calls Try.prog 64 #[.string a0, .int .i64 a1, .int .i64 a2, .int .i64 a3] w fun e w' => e = .returned (.agg #[.int .i64 r1, .int .i64 r2]) ∧ Below w.heap.size w w' := by
 have hu33 := Try.underlying33
 have hu111 := Try.underlying111
 have HB := am_ (Below.refl w.heap.size w)
 have H : ((F5.f k a0 a1 a2).bind fun t315 => ((Fd.f k t315 a3).bind fun bt318 => (some (bt318.2.1, bt318.2.2.1)))) = some (r1, r2) := h
 clear h
 replace H := Option.bind_eq_some_iff.mp H
 obtain ⟨t315, A50, H⟩ := H
 replace H : ((Fd.f k t315 a3).bind fun bt318 => (some (bt318.2.1, bt318.2.2.1))) = some (r1, r2) := H
 have A5 := am_ A50
 clear A50
 replace H := Option.bind_eq_some_iff.mp H
 obtain ⟨⟨t318, t319, t320, t321⟩, A60, H⟩ := H
 replace H : (some (t319, t320)) = some (r1, r2) := H
 have A6 := am_ A60
 clear A60
 simp only [Option.some.injEq, Prod.mk.injEq] at H
 obtain ⟨rfl, rfl⟩ := H
 go_enter Try.func64, Try.ntmps64
 go_wp2_with (first | ((with_reducible refine gd_ 8 ?_); refine be_ 8 #[.int .i64 0, .int .i64 0] 33 ?_; intro gb314 hg w7 hbox hb; have BK314 := am_ hbox; have GW314 := tG HB hg; have GE314 := tG HB hg; replace HB := tHb HB hb; clear hb hbox hg) | ((with_reducible refine gate_callee (f := 90) rfl ?_); refine gl_ (some 15) Try.func90 #[.string a0, .int .i64 a1, .int .i64 a2] ?_; (with_reducible refine (F5.calls k a0 a1 a2 t315 _ A5.out).mono ?_); rintro e w8 ⟨v316, rfl, ho0, hb⟩; refine ⟨_, rfl, ?_⟩; have HO317 := am_ (Kd.R_lower (Kd.R_newB ho0 (g := gb314) (o := .cells #[.int .i64 0, .int .i64 0] 33 (0, 0)) (gB BK314)) (below_size (bh HB))); replace BK314 := tBb BK314 hb; replace HB := tHb HB hb; (try clear hb); (try clear ho0); obtain ⟨Ao9, co9, eo9⟩ := Kd.R_slice HO317.out; subst eo9) | ((with_reducible refine gate_callee (f := 89) rfl ?_); refine gl_ (some 17) Try.func89 #[.slice Ao9 t315.length co9, .int .i64 a3] ?_; (with_reducible refine (Fd.calls k _ _ t315 a3 t318 t319 t320 t321 _ ?side1 ?side2 A6.out).mono ?_); (case side1 => repeat (first | exact (Kd.R_reads' HO317.out).2.2 | (with_reducible refine Kd.C_alloc ?_ _) | (with_reducible refine Kd.C_drewN ?_ _) | (with_reducible refine Kd.C_drew ?_))); (case side2 => exact (Kd.R_reads' HO317.out).2.1); rintro e w10 ⟨rfl, hb⟩; refine ⟨_, rfl, ?_⟩; replace HO317 := tRb HO317 hb; replace BK314 := tBb BK314 hb; replace HB := tHb HB hb; (try clear hb)) | ((with_reducible refine gd_ 9 ?_); refine be_ 9 #[.int .i64 0, .int .i64 0, .int .i64 0] 111 ?_; intro gb322 hg w11 hbox hb; replace HO317 := tRb HO317 hb; have BK322 := am_ hbox; have GW322 := tG HB hg; have GE322 := tG HB hg; replace HB := tHb HB hb; have NB314_322 := tL BK314 hg; have NB322_314 := tR BK314 hg; replace BK314 := tBb BK314 hb; clear hb hbox hg; have hnb12 := NB322_314.out; have hnc12 := NB314_322.out; obtain ⟨z13_0, z13_1, z13_2, y13_0, y13_1, y13_2⟩ := bx3 BK322; obtain ⟨z14_0, z14_1, y14_0, y14_1⟩ := bx2 BK314))
 refine bodyPost_ret (results_cell_row rfl _ _ gb314 33 #[.int .i64 t319, .int .i64 t320] (0, 0) _ rfl (gP BK314 rfl) Try.underlying33 rfl (by kernel_rfl)) rfl ?_
 exact ⟨fe, bh HB⟩

end Go.Proofs.Ytcbfnmabckjijaa.PTuskStops
