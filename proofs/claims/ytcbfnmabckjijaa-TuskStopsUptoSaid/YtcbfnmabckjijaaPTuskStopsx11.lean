-- written by a program of this session (pp.py), out of the kit's print and this session's contracts
import Derived.Test.YtcbfnmabckjijaaPTuskStopsx0
import Derived.Test.YtcbfnmabckjijaaPTuskStopsx7
import Derived.Test.YtcbfnmabckjijaaPTuskStopsx8
import Derived.Test.YtcbfnmabckjijaaPTuskStopsx9
import Derived.Test.YtcbfnmabckjijaaPTuskStopsx10
import Derived.Test.YtcbfnmabckjijaaVTuskStopsPh
namespace Go.Proofs.Ytcbfnmabckjijaa.PTuskStops
open Go.RowKit Go.Proofs.YtcbfnmabckjijaaW.PrintWords Go.Proofs.YtcbfnmabckjijaaW.PrintLast Go.Proofs.YtcbfnmabckjijaaW.PrintMore
set_option linter.unusedVariables false
set_option linter.unusedSimpArgs false

mutual
def F0.j0 : Nat → Int → Bool → Int → Int → List (S129) → List ByteArray → Int → Int → Option (Bool)
 | 0, _, _, _, _, _, _, _, _ => none
 | k + 1, x1, x41, x332000, x332001, x332002, x332003, x332004, x332005 => if x41 = true then (some false) else (F0.l0 k x1 0 x332000 x332001 x332002 x332003 x332004 x332005)
def F0.l0 : Nat → Int → Int → Int → Int → List (S129) → List ByteArray → Int → Int → Option (Bool)
 | 0, _, _, _, _, _, _, _, _ => none
 | k + 1, x1, x6, x332000, x332001, x332002, x332003, x332004, x332005 => if x6 < (x332002.length : Int) then (if 0 ≤ x6 then ((F2.f k ((rd_T129 x332002 x6).f0) ((rd_T129 x332002 x6).f1) ((rd_T129 x332002 x6).f2)).bind fun t334 => (if t334 = true then (if ((rd_T129 x332002 x6).f0) > x1 then (some false) else (F0.l0 k x1 (wrap64 (x6 + 1)) x332000 x332001 x332002 x332003 x332004 x332005)) else (some false))) else (none)) else (if x332001 = 1 then (F0.j2 k x1 (decide ((x332003.length : Int) > 0)) x332000 x332001 x332002 x332003 x332004 x332005) else (F0.j2 k x1 false x332000 x332001 x332002 x332003 x332004 x332005))
def F0.j2 : Nat → Int → Bool → Int → Int → List (S129) → List ByteArray → Int → Int → Option (Bool)
 | 0, _, _, _, _, _, _, _, _ => none
 | k + 1, x1, x75, x332000, x332001, x332002, x332003, x332004, x332005 => if x75 = true then (some false) else (if x332001 > 1 then ((G9.f x1).bind fun t336 => (if (x332003.length : Int) < t336 then (F0.j3 k true x332000 x332001 x332002 x332003 x332004 x332005) else (F0.j3 k (decide ((x332003.length : Int) > x1)) x332000 x332001 x332002 x332003 x332004 x332005))) else (F0.j3 k false x332000 x332001 x332002 x332003 x332004 x332005))
def F0.j3 : Nat → Bool → Int → Int → List (S129) → List ByteArray → Int → Int → Option (Bool)
 | 0, _, _, _, _, _, _, _ => none
 | k + 1, x93, x332000, x332001, x332002, x332003, x332004, x332005 => if x93 = true then (some false) else (F0.l1 k 0 x332000 x332001 x332002 x332003 x332004 x332005)
def F0.l1 : Nat → Int → Int → Int → List (S129) → List ByteArray → Int → Int → Option (Bool)
 | 0, _, _, _, _, _, _, _ => none
 | k + 1, x8, x332000, x332001, x332002, x332003, x332004, x332005 => if x8 < (x332003.length : Int) then (if 0 ≤ x8 then (if ((rdOf ByteArray.empty x332003 x8).size : Int) = 32 then (if x8 > 0 then (if 0 ≤ (wrap64 (x8 - 1)) then (if (wrap64 (x8 - 1)) < (x332003.length : Int) then ((F6.f k (rdOf ByteArray.empty x332003 (wrap64 (x8 - 1))) (rdOf ByteArray.empty x332003 x8)).bind fun t342 => (if t342 = true then (F0.l1 k (wrap64 (x8 + 1)) x332000 x332001 x332002 x332003 x332004 x332005) else (some false))) else (none)) else (none)) else (F0.l1 k (wrap64 (x8 + 1)) x332000 x332001 x332002 x332003 x332004 x332005)) else (some false)) else (none)) else ((F9.f x332004 x332005).bind fun t337 => ((G0.f x332001).bind fun t338 => (if t337 = true then (if t338 = true then (some true) else (if x332004 = 0 then (some (x332005 == 0)) else (some false))) else (some false))))
end
def F0.f (k : Nat) (a0_0 : Int) (a0_1 : Int) (l0_2 : List (S129)) (l0_3 : List ByteArray) (a0_4 : Int) (a0_5 : Int) (a1 : Int) : Option (Bool) := (Fw.f a1).bind fun t332 => (if t332 = true then (if a0_0 < 1 then (F0.j0 k a1 true a0_0 a0_1 l0_2 l0_3 a0_4 a0_5) else (if a0_0 > a1 then (F0.j0 k a1 true a0_0 a0_1 l0_2 l0_3 a0_4 a0_5) else (if a0_1 < 1 then (F0.j0 k a1 true a0_0 a0_1 l0_2 l0_3 a0_4 a0_5) else (if a0_1 > 1048576 then (F0.j0 k a1 true a0_0 a0_1 l0_2 l0_3 a0_4 a0_5) else (F0.j0 k a1 (decide ((l0_2.length : Int) > 4)) a0_0 a0_1 l0_2 l0_3 a0_4 a0_5))))) else (F0.j0 k a1 true a0_0 a0_1 l0_2 l0_3 a0_4 a0_5))
theorem F0.mono_l : ∀ k, (∀ y0 y1 y2 y3 y4 y5 y6 y7, LeO (F0.j0 k y0 y1 y2 y3 y4 y5 y6 y7) (F0.j0 (k + 1) y0 y1 y2 y3 y4 y5 y6 y7)) ∧ (∀ y0 y1 y2 y3 y4 y5 y6 y7, LeO (F0.l0 k y0 y1 y2 y3 y4 y5 y6 y7) (F0.l0 (k + 1) y0 y1 y2 y3 y4 y5 y6 y7)) ∧ (∀ y0 y1 y2 y3 y4 y5 y6 y7, LeO (F0.j2 k y0 y1 y2 y3 y4 y5 y6 y7) (F0.j2 (k + 1) y0 y1 y2 y3 y4 y5 y6 y7)) ∧ (∀ y0 y1 y2 y3 y4 y5 y6, LeO (F0.j3 k y0 y1 y2 y3 y4 y5 y6) (F0.j3 (k + 1) y0 y1 y2 y3 y4 y5 y6)) ∧ (∀ y0 y1 y2 y3 y4 y5 y6, LeO (F0.l1 k y0 y1 y2 y3 y4 y5 y6) (F0.l1 (k + 1) y0 y1 y2 y3 y4 y5 y6))
 | 0 => ⟨fun _ _ _ _ _ _ _ _ r h => by simp [F0.j0] at h, fun _ _ _ _ _ _ _ _ r h => by simp [F0.l0] at h, fun _ _ _ _ _ _ _ _ r h => by simp [F0.j2] at h, fun _ _ _ _ _ _ _ r h => by simp [F0.j3] at h, fun _ _ _ _ _ _ _ r h => by simp [F0.l1] at h⟩
 | k + 1 => by
  obtain ⟨ih0, ih1, ih2, ih3, ih4⟩ := F0.mono_l k
  refine ⟨?_, ?_, ?_, ?_, ?_⟩
  ·
   intro y0 y1 y2 y3 y4 y5 y6 y7
   unfold F0.j0
   repeat' first | (with_reducible first | exact ih0 _ _ _ _ _ _ _ _ | exact ih1 _ _ _ _ _ _ _ _ | exact ih2 _ _ _ _ _ _ _ _ | exact ih3 _ _ _ _ _ _ _ | exact ih4 _ _ _ _ _ _ _ | exact F6.mono _ _ _ | exact F2.mono _ _ _ _ | exact LeO.refl _ | exact LeO.none _ | refine LeO.ite ?_ ?_ | refine LeO.bind ?_ (fun _ => ?_)) | exact ih0 _ _ _ _ _ _ _ _ | exact ih1 _ _ _ _ _ _ _ _ | exact ih2 _ _ _ _ _ _ _ _ | exact ih3 _ _ _ _ _ _ _ | exact ih4 _ _ _ _ _ _ _ | refine LeO.ite ?_ ?_ | refine LeO.bind ?_ (fun _ => ?_)
  ·
   intro y0 y1 y2 y3 y4 y5 y6 y7
   unfold F0.l0
   repeat' first | (with_reducible first | exact ih0 _ _ _ _ _ _ _ _ | exact ih1 _ _ _ _ _ _ _ _ | exact ih2 _ _ _ _ _ _ _ _ | exact ih3 _ _ _ _ _ _ _ | exact ih4 _ _ _ _ _ _ _ | exact F6.mono _ _ _ | exact F2.mono _ _ _ _ | exact LeO.refl _ | exact LeO.none _ | refine LeO.ite ?_ ?_ | refine LeO.bind ?_ (fun _ => ?_)) | exact ih0 _ _ _ _ _ _ _ _ | exact ih1 _ _ _ _ _ _ _ _ | exact ih2 _ _ _ _ _ _ _ _ | exact ih3 _ _ _ _ _ _ _ | exact ih4 _ _ _ _ _ _ _ | refine LeO.ite ?_ ?_ | refine LeO.bind ?_ (fun _ => ?_)
  ·
   intro y0 y1 y2 y3 y4 y5 y6 y7
   unfold F0.j2
   repeat' first | (with_reducible first | exact ih0 _ _ _ _ _ _ _ _ | exact ih1 _ _ _ _ _ _ _ _ | exact ih2 _ _ _ _ _ _ _ _ | exact ih3 _ _ _ _ _ _ _ | exact ih4 _ _ _ _ _ _ _ | exact F6.mono _ _ _ | exact F2.mono _ _ _ _ | exact LeO.refl _ | exact LeO.none _ | refine LeO.ite ?_ ?_ | refine LeO.bind ?_ (fun _ => ?_)) | exact ih0 _ _ _ _ _ _ _ _ | exact ih1 _ _ _ _ _ _ _ _ | exact ih2 _ _ _ _ _ _ _ _ | exact ih3 _ _ _ _ _ _ _ | exact ih4 _ _ _ _ _ _ _ | refine LeO.ite ?_ ?_ | refine LeO.bind ?_ (fun _ => ?_)
  ·
   intro y0 y1 y2 y3 y4 y5 y6
   unfold F0.j3
   repeat' first | (with_reducible first | exact ih0 _ _ _ _ _ _ _ _ | exact ih1 _ _ _ _ _ _ _ _ | exact ih2 _ _ _ _ _ _ _ _ | exact ih3 _ _ _ _ _ _ _ | exact ih4 _ _ _ _ _ _ _ | exact F6.mono _ _ _ | exact F2.mono _ _ _ _ | exact LeO.refl _ | exact LeO.none _ | refine LeO.ite ?_ ?_ | refine LeO.bind ?_ (fun _ => ?_)) | exact ih0 _ _ _ _ _ _ _ _ | exact ih1 _ _ _ _ _ _ _ _ | exact ih2 _ _ _ _ _ _ _ _ | exact ih3 _ _ _ _ _ _ _ | exact ih4 _ _ _ _ _ _ _ | refine LeO.ite ?_ ?_ | refine LeO.bind ?_ (fun _ => ?_)
  intro y0 y1 y2 y3 y4 y5 y6
  unfold F0.l1
  repeat' first | (with_reducible first | exact ih0 _ _ _ _ _ _ _ _ | exact ih1 _ _ _ _ _ _ _ _ | exact ih2 _ _ _ _ _ _ _ _ | exact ih3 _ _ _ _ _ _ _ | exact ih4 _ _ _ _ _ _ _ | exact F6.mono _ _ _ | exact F2.mono _ _ _ _ | exact LeO.refl _ | exact LeO.none _ | refine LeO.ite ?_ ?_ | refine LeO.bind ?_ (fun _ => ?_)) | exact ih0 _ _ _ _ _ _ _ _ | exact ih1 _ _ _ _ _ _ _ _ | exact ih2 _ _ _ _ _ _ _ _ | exact ih3 _ _ _ _ _ _ _ | exact ih4 _ _ _ _ _ _ _ | refine LeO.ite ?_ ?_ | refine LeO.bind ?_ (fun _ => ?_)
theorem F0.mono : ∀ a0 a1 a2 a3 a4 a5 a6 k, LeO (F0.f k a0 a1 a2 a3 a4 a5 a6) (F0.f (k + 1) a0 a1 a2 a3 a4 a5 a6) := by
 intro a0 a1 a2 a3 a4 a5 a6 k
 obtain ⟨ih0, ih1, ih2, ih3, ih4⟩ := F0.mono_l k
 unfold F0.f
 repeat' first | (with_reducible first | exact ih0 _ _ _ _ _ _ _ _ | exact ih1 _ _ _ _ _ _ _ _ | exact ih2 _ _ _ _ _ _ _ _ | exact ih3 _ _ _ _ _ _ _ | exact ih4 _ _ _ _ _ _ _ | exact F6.mono _ _ _ | exact F2.mono _ _ _ _ | exact LeO.refl _ | exact LeO.none _ | refine LeO.ite ?_ ?_ | refine LeO.bind ?_ (fun _ => ?_)) | exact ih0 _ _ _ _ _ _ _ _ | exact ih1 _ _ _ _ _ _ _ _ | exact ih2 _ _ _ _ _ _ _ _ | exact ih3 _ _ _ _ _ _ _ | exact ih4 _ _ _ _ _ _ _ | refine LeO.ite ?_ ?_ | refine LeO.bind ?_ (fun _ => ?_)
set_option maxHeartbeats 8000000 in
set_option maxRecDepth 100000 in
theorem F0.calls (k : Nat) (a0_0 : Int) (a0_1 : Int) (A0_2 : Option Addr) (c0_2 : Nat) (l0_2 : List (S129)) (A0_3 : Option Addr) (c0_3 : Nat) (l0_3 : List ByteArray) (a0_4 : Int) (a0_5 : Int) (a1 : Int) (r : Bool) (w : World) (hr0_2 : Kd.C k129 w A0_2 l0_2.length l0_2) (hc0_2 : l0_2.length ≤ c0_2) (hr0_3 : Kd.C Kd.string w A0_3 l0_3.length l0_3) (hc0_3 : l0_3.length ≤ c0_3) (h : F0.f k a0_0 a0_1 l0_2 l0_3 a0_4 a0_5 a1 = some r) :
  Calls Try.prog 103 #[.agg #[.int .i64 a0_0, .int .i64 a0_1, .slice A0_2 l0_2.length c0_2, .slice A0_3 l0_3.length c0_3, .int .i64 a0_4, .int .i64 a0_5], .int .i64 a1] w fun e w' => e = .returned (.bool r) ∧ Below w.heap.size w w' := by
 have hu35 := Try.underlying35
 have hu129 := Try.underlying129
 have hu33 := Try.underlying33
 have HR0_2 := am_ hr0_2
 have HC0_2 := am_ hc0_2
 clear hr0_2 hc0_2
 have HR0_3 := am_ hr0_3
 have HC0_3 := am_ hc0_3
 clear hr0_3 hc0_3
 have HB := am_ (Below.refl w.heap.size w)
 have H : ((Fw.f a1).bind fun t332 => (if t332 = true then (if a0_0 < 1 then (F0.j0 k a1 true a0_0 a0_1 l0_2 l0_3 a0_4 a0_5) else (if a0_0 > a1 then (F0.j0 k a1 true a0_0 a0_1 l0_2 l0_3 a0_4 a0_5) else (if a0_1 < 1 then (F0.j0 k a1 true a0_0 a0_1 l0_2 l0_3 a0_4 a0_5) else (if a0_1 > 1048576 then (F0.j0 k a1 true a0_0 a0_1 l0_2 l0_3 a0_4 a0_5) else (F0.j0 k a1 (decide ((l0_2.length : Int) > 4)) a0_0 a0_1 l0_2 l0_3 a0_4 a0_5))))) else (F0.j0 k a1 true a0_0 a0_1 l0_2 l0_3 a0_4 a0_5))) = some r := h
 clear h
 replace H := Option.bind_eq_some_iff.mp H
 obtain ⟨t332, A30, H⟩ := H
 replace H : (if t332 = true then (if a0_0 < 1 then (F0.j0 k a1 true a0_0 a0_1 l0_2 l0_3 a0_4 a0_5) else (if a0_0 > a1 then (F0.j0 k a1 true a0_0 a0_1 l0_2 l0_3 a0_4 a0_5) else (if a0_1 < 1 then (F0.j0 k a1 true a0_0 a0_1 l0_2 l0_3 a0_4 a0_5) else (if a0_1 > 1048576 then (F0.j0 k a1 true a0_0 a0_1 l0_2 l0_3 a0_4 a0_5) else (F0.j0 k a1 (decide ((l0_2.length : Int) > 4)) a0_0 a0_1 l0_2 l0_3 a0_4 a0_5))))) else (F0.j0 k a1 true a0_0 a0_1 l0_2 l0_3 a0_4 a0_5)) = some r := H
 have A3 := am_ A30
 clear A30
 have HC4 := am_ H
 clear H
 go_enter Try.func103, Try.ntmps103
 go_upto_region 2 with (first | ((with_reducible refine gd_ 2 ?_); (try (refine gate_guard (by rfl) ?_; dsimp only)); refine be_ 2 #[.int .i64 a0_0, .int .i64 a0_1, .slice A0_2 l0_2.length c0_2, .slice A0_3 l0_3.length c0_3, .int .i64 a0_4, .int .i64 a0_5] 35 ?_; intro gb331 hg w5 hbox hb; have BK331 := am_ hbox; have GW331 := tG HB hg; have GE331 := tG HB hg; replace HB := tHb HB hb; clear hb hbox hg) | (go_at_call 58; (with_reducible refine (Fw.calls a1 t332 _ A3.out).mono ?_); rintro e w' ⟨rfl, ⟨nd, rfl⟩⟩; (try first | exact ⟨rfl, _, World.drewN_drewN _ _ _⟩ | exact ⟨rfl, _, Eq.trans (World.drewN_drewN _ _ _) (congrArg (World.drewN _) (Nat.add_assoc _ _ _))⟩)))
 (try simp only [Act.put, List.setIfInBounds_toArray, List.set_cons_zero, List.set_cons_succ])
 repeat (go_quiet (first | ((with_reducible refine gd_ 2 ?_); (try (refine gate_guard (by rfl) ?_; dsimp only)); refine be_ 2 #[.int .i64 a0_0, .int .i64 a0_1, .slice A0_2 l0_2.length c0_2, .slice A0_3 l0_3.length c0_3, .int .i64 a0_4, .int .i64 a0_5] 35 ?_; intro gb331 hg w5 hbox hb; have BK331 := am_ hbox; have GW331 := tG HB hg; have GE331 := tG HB hg; replace HB := tHb HB hb; clear hb hbox hg) | (go_at_call 58; (with_reducible refine (Fw.calls a1 t332 _ A3.out).mono ?_); rintro e w' ⟨rfl, ⟨nd, rfl⟩⟩; (try first | exact ⟨rfl, _, World.drewN_drewN _ _ _⟩ | exact ⟨rfl, _, Eq.trans (World.drewN_drewN _ _ _) (congrArg (World.drewN _) (Nat.add_assoc _ _ _))⟩))); go_upto_region 2 with (first | ((with_reducible refine gd_ 2 ?_); (try (refine gate_guard (by rfl) ?_; dsimp only)); refine be_ 2 #[.int .i64 a0_0, .int .i64 a0_1, .slice A0_2 l0_2.length c0_2, .slice A0_3 l0_3.length c0_3, .int .i64 a0_4, .int .i64 a0_5] 35 ?_; intro gb331 hg w5 hbox hb; have BK331 := am_ hbox; have GW331 := tG HB hg; have GE331 := tG HB hg; replace HB := tHb HB hb; clear hb hbox hg) | (go_at_call 58; (with_reducible refine (Fw.calls a1 t332 _ A3.out).mono ?_); rintro e w' ⟨rfl, ⟨nd, rfl⟩⟩; (try first | exact ⟨rfl, _, World.drewN_drewN _ _ _⟩ | exact ⟨rfl, _, Eq.trans (World.drewN_drewN _ _ _) (congrArg (World.drewN _) (Nat.add_assoc _ _ _))⟩))))
 (try simp only [Act.put, List.setIfInBounds_toArray, List.set_cons_zero, List.set_cons_succ])
 go_cut [41] (fun v41 wc => ∃ (kq : Nat) (x41_3 : Bool), v41 = .bool x41_3 ∧ Asc (F0.j0 kq a1 x41_3 a0_0 a0_1 l0_2 l0_3 a0_4 a0_5 = some r) ∧ Asc (kq ≤ k) ∧ Asc (wc.heap[gb331]? = some (.cells #[.int .i64 a0_0, .int .i64 a0_1, (.slice A0_2 l0_2.length c0_2), (.slice A0_3 l0_3.length c0_3), .int .i64 a0_4, .int .i64 a0_5] 35 (0, 0))) ∧ Asc (Below w.heap.size w wc))
 case first =>
  have H := HC4.out
  clear HC4
  by_cases c6 : t332 = true
  ·
   subst c6
   rw [if_pos rfl] at H
   by_cases c7 : a0_0 < 1
   ·
    rw [if_pos c7] at H
    have c7b0 : decide (a0_0 < 1) = true := decide_eq_true c7
    clear c7
    (first | rw [c7b0] | (simp only [i64_w, i32_w]; rw [c7b0]) | skip)
    have H' := am_ H
    clear H
    obtain ⟨z8_0, z8_1, z8_2, z8_3, z8_4, z8_5, y8_0, y8_1, y8_2, y8_3, y8_4, y8_5⟩ := bx6 BK331
    go_wp2
    repeat (go_quiet (fail); try go_wp2)
    go_meet
    case rel => exact ⟨_, (true), fr, H', ⟨by first | omega | exact Nat.le_refl _⟩, ⟨gB BK331⟩, ⟨bh HB⟩⟩
   rw [if_neg c7] at H
   have c7b0 : decide (a0_0 < 1) = false := decide_eq_false c7
   clear c7
   (first | rw [c7b0] | (simp only [i64_w, i32_w]; rw [c7b0]) | skip)
   by_cases c9 : a0_0 > a1
   ·
    rw [if_pos c9] at H
    have c9b0 : decide (a1 < a0_0) = true := decide_eq_true c9
    clear c9
    have H' := am_ H
    clear H
    obtain ⟨z10_0, z10_1, z10_2, z10_3, z10_4, z10_5, y10_0, y10_1, y10_2, y10_3, y10_4, y10_5⟩ := bx6 BK331
    go_wp2
    repeat (go_quiet (fail); try go_wp2)
    go_meet
    case rel => exact ⟨_, (true), fr, H', ⟨by first | omega | exact Nat.le_refl _⟩, ⟨gB BK331⟩, ⟨bh HB⟩⟩
   rw [if_neg c9] at H
   have c9b0 : decide (a1 < a0_0) = false := decide_eq_false c9
   clear c9
   by_cases c11 : a0_1 < 1
   ·
    rw [if_pos c11] at H
    have c11b0 : decide (a0_1 < 1) = true := decide_eq_true c11
    clear c11
    have H' := am_ H
    clear H
    obtain ⟨z12_0, z12_1, z12_2, z12_3, z12_4, z12_5, y12_0, y12_1, y12_2, y12_3, y12_4, y12_5⟩ := bx6 BK331
    go_wp2
    repeat (go_quiet (fail); try go_wp2)
    go_meet
    case rel => exact ⟨_, (true), fr, H', ⟨by first | omega | exact Nat.le_refl _⟩, ⟨gB BK331⟩, ⟨bh HB⟩⟩
   rw [if_neg c11] at H
   have c11b0 : decide (a0_1 < 1) = false := decide_eq_false c11
   clear c11
   by_cases c13 : a0_1 > 1048576
   ·
    rw [if_pos c13] at H
    have c13b0 : decide (1048576 < a0_1) = true := decide_eq_true c13
    clear c13
    have H' := am_ H
    clear H
    obtain ⟨z14_0, z14_1, z14_2, z14_3, z14_4, z14_5, y14_0, y14_1, y14_2, y14_3, y14_4, y14_5⟩ := bx6 BK331
    go_wp2
    repeat (go_quiet (fail); try go_wp2)
    go_meet
    case rel => exact ⟨_, (true), fr, H', ⟨by first | omega | exact Nat.le_refl _⟩, ⟨gB BK331⟩, ⟨bh HB⟩⟩
   rw [if_neg c13] at H
   have c13b0 : decide (1048576 < a0_1) = false := decide_eq_false c13
   clear c13
   have H' := am_ H
   clear H
   obtain ⟨z15_0, z15_1, z15_2, z15_3, z15_4, z15_5, y15_0, y15_1, y15_2, y15_3, y15_4, y15_5⟩ := bx6 BK331
   go_wp2
   repeat (go_quiet (fail); try go_wp2)
   go_meet
   case rel => exact ⟨_, (decide ((l0_2.length : Int) > 4)), fr, H', ⟨by first | omega | exact Nat.le_refl _⟩, ⟨gB BK331⟩, ⟨bh HB⟩⟩
  replace c6 := Bool.eq_false_iff.mpr c6
  subst c6
  rw [if_neg (show ¬ (false = true) by decide)] at H
  have H' := am_ H
  clear H
  go_wp2
  repeat (go_quiet (fail); try go_wp2)
  go_meet
  case rel => exact ⟨_, (true), fr, H', ⟨by first | omega | exact Nat.le_refl _⟩, ⟨gB BK331⟩, ⟨bh HB⟩⟩
 case rest =>
  clear HC4
  obtain ⟨kq, x41_3, rfl, HA, HJ3, BK331, HB⟩ := hcut
  cases kq with
  | zero => exact absurd HA.out (by simp [F0.j0])
  | succ kj3 =>
   have H := HA.out
   clear HA
   simp only [F0.j0] at H
   by_cases c16 : x41_3 = true
   ·
    subst c16
    rw [if_pos rfl] at H
    obtain rfl := Option.some.inj H
    go_wp2
    repeat (go_quiet (fail); try go_wp2)
    go_ret
    exact ⟨fe, bh HB⟩
   replace c16 := Bool.eq_false_iff.mpr c16
   subst c16
   rw [if_neg (show ¬ (false = true) by decide)] at H
   have H' := am_ H
   clear H
   go_wp2
   repeat (go_quiet (fail); try go_wp2)
   go_loopg [6] kj3 (fun kq v6 w' => ∃ (x6_2 : Int), v6 = .int .i64 x6_2 ∧ Asc (F0.l0 kq a1 x6_2 a0_0 a0_1 l0_2 l0_3 a0_4 a0_5 = some r) ∧ Asc (kq ≤ kj3) ∧ Asc (w'.heap[gb331]? = some (.cells #[.int .i64 a0_0, .int .i64 a0_1, (.slice A0_2 l0_2.length c0_2), (.slice A0_3 l0_3.length c0_3), .int .i64 a0_4, .int .i64 a0_5] 35 (0, 0))) ∧ Asc (Below w.heap.size w w'))
   case atStart => exact ⟨(0), fr, H', ⟨Nat.le_refl _⟩, ⟨gB BK331⟩, ⟨bh HB⟩⟩
   case round =>
    clear H'
    try clear c16
    obtain ⟨x6_2, rfl, HA, HK2, BK331, HB⟩ := hrel
    cases gk with
    | zero => exact absurd HA.out (by simp [F0.l0])
    | succ k2 =>
     have H := HA.out
     clear HA
     simp only [F0.l0] at H
     by_cases c17 : x6_2 < (l0_2.length : Int)
     ·
      rw [if_pos c17] at H
      have c17b0 : decide (x6_2 < (l0_2.length : Int)) = true := decide_eq_true c17
      clear c17
      revert H
      refine gi (fun c18b0 H => ?_)
      replace H := Option.bind_eq_some_iff.mp H
      obtain ⟨t334, A190, H⟩ := H
      replace H : (if t334 = true then (if ((rd_T129 l0_2 x6_2).f0) > a1 then (some false) else (F0.l0 k2 a1 (wrap64 (x6_2 + 1)) a0_0 a0_1 l0_2 l0_3 a0_4 a0_5)) else (some false)) = some r := H
      have A19 := am_ A190
      clear A190
      by_cases c20 : t334 = true
      ·
       subst c20
       rw [if_pos rfl] at H
       by_cases c21 : ((rd_T129 l0_2 x6_2).f0) > a1
       ·
        rw [if_pos c21] at H
        have c21b0 : decide (a1 < ((rd_T129 l0_2 x6_2).f0)) = true := decide_eq_true c21
        clear c21
        obtain rfl := Option.some.inj H
        obtain ⟨z22_0, z22_1, z22_2, z22_3, z22_4, z22_5, y22_0, y22_1, y22_2, y22_3, y22_4, y22_5⟩ := bx6 BK331
        have p333 : 0 ≤ (x6_2 : Int) := dt
        have q333 : x6_2 < (l0_2.length : Int) := dt
        obtain ⟨ad333, A333_2, c333_2, e333, hx333_0, hx333_1, hx333_2, hl333_2, hi333_2⟩ := at_T129 HR0_2.out x6_2 p333 q333
        cases e333
        replace hx333_0 := ce HB hx333_0
        replace hx333_1 := ce HB hx333_1
        replace hx333_2 := ce HB hx333_2
        have HR333_2 := am_ hi333_2
        have HC333_2 := am_ hl333_2
        clear hi333_2 hl333_2
        replace p333 := eq_true p333
        replace q333 := eq_true q333
        go_wp2_with (first | (go_at_call 127; (with_reducible refine (F2.calls k2 ((rd_T129 l0_2 x6_2).f0) ((rd_T129 l0_2 x6_2).f1) _ _ ((rd_T129 l0_2 x6_2).f2) true _ ?side1 ?side2 A19.out).mono ?_); (case side1 => exact gCB HR333_2 HB); (case side2 => exact HC333_2.out); rintro e w23 ⟨rfl, hb⟩; replace BK331 := tBb BK331 hb; replace HB := tHb HB hb; (try clear hb); obtain ⟨z24_0, z24_1, z24_2, z24_3, z24_4, z24_5, y24_0, y24_1, y24_2, y24_3, y24_4, y24_5⟩ := bx6 BK331; have p335 : 0 ≤ (x6_2 : Int) := dt; have q335 : x6_2 < (l0_2.length : Int) := dt; obtain ⟨ad335, A335_2, c335_2, e335, hx335_0, hx335_1, hx335_2, hl335_2, hi335_2⟩ := at_T129 HR0_2.out x6_2 p335 q335; obtain rfl : ad333 = ad335 := (by injection e335); replace hx335_0 := ce HB hx335_0; replace hx335_1 := ce HB hx335_1; replace hx335_2 := ce HB hx335_2; have HR335_2 := am_ hi335_2; have HC335_2 := am_ hl335_2; clear hi335_2 hl335_2; replace p335 := eq_true p335; replace q335 := eq_true q335))
        (try simp only [Act.put, List.setIfInBounds_toArray, List.set_cons_zero, List.set_cons_succ])
        repeat (go_quiet (first | (go_at_call 127; (with_reducible refine (F2.calls k2 ((rd_T129 l0_2 x6_2).f0) ((rd_T129 l0_2 x6_2).f1) _ _ ((rd_T129 l0_2 x6_2).f2) true _ ?side1 ?side2 A19.out).mono ?_); (case side1 => exact gCB HR333_2 HB); (case side2 => exact HC333_2.out); rintro e w23 ⟨rfl, hb⟩; replace BK331 := tBb BK331 hb; replace HB := tHb HB hb; (try clear hb); obtain ⟨z24_0, z24_1, z24_2, z24_3, z24_4, z24_5, y24_0, y24_1, y24_2, y24_3, y24_4, y24_5⟩ := bx6 BK331; have p335 : 0 ≤ (x6_2 : Int) := dt; have q335 : x6_2 < (l0_2.length : Int) := dt; obtain ⟨ad335, A335_2, c335_2, e335, hx335_0, hx335_1, hx335_2, hl335_2, hi335_2⟩ := at_T129 HR0_2.out x6_2 p335 q335; obtain rfl : ad333 = ad335 := (by injection e335); replace hx335_0 := ce HB hx335_0; replace hx335_1 := ce HB hx335_1; replace hx335_2 := ce HB hx335_2; have HR335_2 := am_ hi335_2; have HC335_2 := am_ hl335_2; clear hi335_2 hl335_2; replace p335 := eq_true p335; replace q335 := eq_true q335)); try go_wp2_with (first | (go_at_call 127; (with_reducible refine (F2.calls k2 ((rd_T129 l0_2 x6_2).f0) ((rd_T129 l0_2 x6_2).f1) _ _ ((rd_T129 l0_2 x6_2).f2) true _ ?side1 ?side2 A19.out).mono ?_); (case side1 => exact gCB HR333_2 HB); (case side2 => exact HC333_2.out); rintro e w23 ⟨rfl, hb⟩; replace BK331 := tBb BK331 hb; replace HB := tHb HB hb; (try clear hb); obtain ⟨z24_0, z24_1, z24_2, z24_3, z24_4, z24_5, y24_0, y24_1, y24_2, y24_3, y24_4, y24_5⟩ := bx6 BK331; have p335 : 0 ≤ (x6_2 : Int) := dt; have q335 : x6_2 < (l0_2.length : Int) := dt; obtain ⟨ad335, A335_2, c335_2, e335, hx335_0, hx335_1, hx335_2, hl335_2, hi335_2⟩ := at_T129 HR0_2.out x6_2 p335 q335; obtain rfl : ad333 = ad335 := (by injection e335); replace hx335_0 := ce HB hx335_0; replace hx335_1 := ce HB hx335_1; replace hx335_2 := ce HB hx335_2; have HR335_2 := am_ hi335_2; have HC335_2 := am_ hl335_2; clear hi335_2 hl335_2; replace p335 := eq_true p335; replace q335 := eq_true q335)))
        go_ret
        exact ⟨fe, bh HB⟩
       rw [if_neg c21] at H
       have c21b0 : decide (a1 < ((rd_T129 l0_2 x6_2).f0)) = false := decide_eq_false c21
       clear c21
       have H' := am_ H
       clear H
       obtain ⟨z25_0, z25_1, z25_2, z25_3, z25_4, z25_5, y25_0, y25_1, y25_2, y25_3, y25_4, y25_5⟩ := bx6 BK331
       have p333 : 0 ≤ (x6_2 : Int) := dt
       have q333 : x6_2 < (l0_2.length : Int) := dt
       obtain ⟨ad333, A333_2, c333_2, e333, hx333_0, hx333_1, hx333_2, hl333_2, hi333_2⟩ := at_T129 HR0_2.out x6_2 p333 q333
       cases e333
       replace hx333_0 := ce HB hx333_0
       replace hx333_1 := ce HB hx333_1
       replace hx333_2 := ce HB hx333_2
       have HR333_2 := am_ hi333_2
       have HC333_2 := am_ hl333_2
       clear hi333_2 hl333_2
       replace p333 := eq_true p333
       replace q333 := eq_true q333
       go_wp2_with (first | (go_at_call 127; (with_reducible refine (F2.calls k2 ((rd_T129 l0_2 x6_2).f0) ((rd_T129 l0_2 x6_2).f1) _ _ ((rd_T129 l0_2 x6_2).f2) true _ ?side1 ?side2 A19.out).mono ?_); (case side1 => exact gCB HR333_2 HB); (case side2 => exact HC333_2.out); rintro e w26 ⟨rfl, hb⟩; replace BK331 := tBb BK331 hb; replace HB := tHb HB hb; (try clear hb); obtain ⟨z27_0, z27_1, z27_2, z27_3, z27_4, z27_5, y27_0, y27_1, y27_2, y27_3, y27_4, y27_5⟩ := bx6 BK331; have p335 : 0 ≤ (x6_2 : Int) := dt; have q335 : x6_2 < (l0_2.length : Int) := dt; obtain ⟨ad335, A335_2, c335_2, e335, hx335_0, hx335_1, hx335_2, hl335_2, hi335_2⟩ := at_T129 HR0_2.out x6_2 p335 q335; obtain rfl : ad333 = ad335 := (by injection e335); replace hx335_0 := ce HB hx335_0; replace hx335_1 := ce HB hx335_1; replace hx335_2 := ce HB hx335_2; have HR335_2 := am_ hi335_2; have HC335_2 := am_ hl335_2; clear hi335_2 hl335_2; replace p335 := eq_true p335; replace q335 := eq_true q335))
       (try simp only [Act.put, List.setIfInBounds_toArray, List.set_cons_zero, List.set_cons_succ])
       repeat (go_quiet (first | (go_at_call 127; (with_reducible refine (F2.calls k2 ((rd_T129 l0_2 x6_2).f0) ((rd_T129 l0_2 x6_2).f1) _ _ ((rd_T129 l0_2 x6_2).f2) true _ ?side1 ?side2 A19.out).mono ?_); (case side1 => exact gCB HR333_2 HB); (case side2 => exact HC333_2.out); rintro e w26 ⟨rfl, hb⟩; replace BK331 := tBb BK331 hb; replace HB := tHb HB hb; (try clear hb); obtain ⟨z27_0, z27_1, z27_2, z27_3, z27_4, z27_5, y27_0, y27_1, y27_2, y27_3, y27_4, y27_5⟩ := bx6 BK331; have p335 : 0 ≤ (x6_2 : Int) := dt; have q335 : x6_2 < (l0_2.length : Int) := dt; obtain ⟨ad335, A335_2, c335_2, e335, hx335_0, hx335_1, hx335_2, hl335_2, hi335_2⟩ := at_T129 HR0_2.out x6_2 p335 q335; obtain rfl : ad333 = ad335 := (by injection e335); replace hx335_0 := ce HB hx335_0; replace hx335_1 := ce HB hx335_1; replace hx335_2 := ce HB hx335_2; have HR335_2 := am_ hi335_2; have HC335_2 := am_ hl335_2; clear hi335_2 hl335_2; replace p335 := eq_true p335; replace q335 := eq_true q335)); try go_wp2_with (first | (go_at_call 127; (with_reducible refine (F2.calls k2 ((rd_T129 l0_2 x6_2).f0) ((rd_T129 l0_2 x6_2).f1) _ _ ((rd_T129 l0_2 x6_2).f2) true _ ?side1 ?side2 A19.out).mono ?_); (case side1 => exact gCB HR333_2 HB); (case side2 => exact HC333_2.out); rintro e w26 ⟨rfl, hb⟩; replace BK331 := tBb BK331 hb; replace HB := tHb HB hb; (try clear hb); obtain ⟨z27_0, z27_1, z27_2, z27_3, z27_4, z27_5, y27_0, y27_1, y27_2, y27_3, y27_4, y27_5⟩ := bx6 BK331; have p335 : 0 ≤ (x6_2 : Int) := dt; have q335 : x6_2 < (l0_2.length : Int) := dt; obtain ⟨ad335, A335_2, c335_2, e335, hx335_0, hx335_1, hx335_2, hl335_2, hi335_2⟩ := at_T129 HR0_2.out x6_2 p335 q335; obtain rfl : ad333 = ad335 := (by injection e335); replace hx335_0 := ce HB hx335_0; replace hx335_1 := ce HB hx335_1; replace hx335_2 := ce HB hx335_2; have HR335_2 := am_ hi335_2; have HC335_2 := am_ hl335_2; clear hi335_2 hl335_2; replace p335 := eq_true p335; replace q335 := eq_true q335)))
       go_roundg k2
       case measure => have := HJ3.out; have := HK2.out; omega
       case rel => exact ⟨(wrap64 (x6_2 + 1)), fr, H', ⟨by have := HJ3.out; have := HK2.out; omega⟩, ⟨gB BK331⟩, ⟨bh HB⟩⟩
      replace c20 := Bool.eq_false_iff.mpr c20
      subst c20
      rw [if_neg (show ¬ (false = true) by decide)] at H
      obtain rfl := Option.some.inj H
      obtain ⟨z28_0, z28_1, z28_2, z28_3, z28_4, z28_5, y28_0, y28_1, y28_2, y28_3, y28_4, y28_5⟩ := bx6 BK331
      have p333 : 0 ≤ (x6_2 : Int) := dt
      have q333 : x6_2 < (l0_2.length : Int) := dt
      obtain ⟨ad333, A333_2, c333_2, e333, hx333_0, hx333_1, hx333_2, hl333_2, hi333_2⟩ := at_T129 HR0_2.out x6_2 p333 q333
      cases e333
      replace hx333_0 := ce HB hx333_0
      replace hx333_1 := ce HB hx333_1
      replace hx333_2 := ce HB hx333_2
      have HR333_2 := am_ hi333_2
      have HC333_2 := am_ hl333_2
      clear hi333_2 hl333_2
      replace p333 := eq_true p333
      replace q333 := eq_true q333
      go_wp2_with (first | (go_at_call 127; (with_reducible refine (F2.calls k2 ((rd_T129 l0_2 x6_2).f0) ((rd_T129 l0_2 x6_2).f1) _ _ ((rd_T129 l0_2 x6_2).f2) false _ ?side1 ?side2 A19.out).mono ?_); (case side1 => exact gCB HR333_2 HB); (case side2 => exact HC333_2.out); rintro e w29 ⟨rfl, hb⟩; replace BK331 := tBb BK331 hb; replace HB := tHb HB hb; (try clear hb)))
      (try simp only [Act.put, List.setIfInBounds_toArray, List.set_cons_zero, List.set_cons_succ])
      repeat (go_quiet (first | (go_at_call 127; (with_reducible refine (F2.calls k2 ((rd_T129 l0_2 x6_2).f0) ((rd_T129 l0_2 x6_2).f1) _ _ ((rd_T129 l0_2 x6_2).f2) false _ ?side1 ?side2 A19.out).mono ?_); (case side1 => exact gCB HR333_2 HB); (case side2 => exact HC333_2.out); rintro e w29 ⟨rfl, hb⟩; replace BK331 := tBb BK331 hb; replace HB := tHb HB hb; (try clear hb))); try go_wp2_with (first | (go_at_call 127; (with_reducible refine (F2.calls k2 ((rd_T129 l0_2 x6_2).f0) ((rd_T129 l0_2 x6_2).f1) _ _ ((rd_T129 l0_2 x6_2).f2) false _ ?side1 ?side2 A19.out).mono ?_); (case side1 => exact gCB HR333_2 HB); (case side2 => exact HC333_2.out); rintro e w29 ⟨rfl, hb⟩; replace BK331 := tBb BK331 hb; replace HB := tHb HB hb; (try clear hb))))
      go_ret
      exact ⟨fe, bh HB⟩
     rw [if_neg c17] at H
     have c17b0 : decide (x6_2 < (l0_2.length : Int)) = false := decide_eq_false c17
     clear c17
     have HC30 := am_ H
     clear H
     obtain ⟨z31_0, z31_1, z31_2, z31_3, z31_4, z31_5, y31_0, y31_1, y31_2, y31_3, y31_4, y31_5⟩ := bx6 BK331
     go_upto_region 10 with (fail)
     repeat (go_quiet (fail); go_upto_region 10 with (fail))
     go_cut [75] (fun v75 wc => ∃ (kq : Nat) (x75_29 : Bool), v75 = .bool x75_29 ∧ Asc (F0.j2 kq a1 x75_29 a0_0 a0_1 l0_2 l0_3 a0_4 a0_5 = some r) ∧ Asc (kq ≤ k2) ∧ Asc (wc.heap[gb331]? = some (.cells #[.int .i64 a0_0, .int .i64 a0_1, (.slice A0_2 l0_2.length c0_2), (.slice A0_3 l0_3.length c0_3), .int .i64 a0_4, .int .i64 a0_5] 35 (0, 0))) ∧ Asc (Below w.heap.size w wc))
     case first =>
      have H := HC30.out
      clear HC30
      by_cases c32 : a0_1 = 1
      ·
       rw [if_pos c32] at H
       have c32b0 : (a0_1 == 1) = true := beq_iff_eq.mpr c32
       have c32b1 : (a0_1 != 1) = false := bne_eq_false_iff_eq.mpr c32
       clear c32
       (first | rw [c32b0] | (simp only [i64_w, i32_w]; rw [c32b0]) | skip)
       have H' := am_ H
       clear H
       obtain ⟨z33_0, z33_1, z33_2, z33_3, z33_4, z33_5, y33_0, y33_1, y33_2, y33_3, y33_4, y33_5⟩ := bx6 BK331
       go_wp2
       repeat (go_quiet (fail); try go_wp2)
       go_meet
       case rel => exact ⟨_, (decide ((l0_3.length : Int) > 0)), fr, H', ⟨by have := HJ3.out; have := HK2.out; first | omega | exact Nat.le_refl _⟩, ⟨gB BK331⟩, ⟨bh HB⟩⟩
      rw [if_neg c32] at H
      have c32b0 : (a0_1 == 1) = false := beq_eq_false_iff_ne.mpr c32
      have c32b1 : (a0_1 != 1) = true := bne_iff_ne.mpr c32
      (first | rw [c32b0] | (simp only [i64_w, i32_w]; rw [c32b0]) | skip)
      have H' := am_ H
      clear H
      obtain ⟨z34_0, z34_1, z34_2, z34_3, z34_4, z34_5, y34_0, y34_1, y34_2, y34_3, y34_4, y34_5⟩ := bx6 BK331
      go_wp2
      repeat (go_quiet (fail); try go_wp2)
      go_meet
      case rel => exact ⟨_, (false), fr, H', ⟨by have := HJ3.out; have := HK2.out; first | omega | exact Nat.le_refl _⟩, ⟨gB BK331⟩, ⟨bh HB⟩⟩
     case rest =>
      clear HC30
      try clear c17b0 z31_0 z31_1 z31_2 z31_3 z31_4 z31_5 y31_0 y31_1 y31_2 y31_3 y31_4 y31_5
      obtain ⟨kq, x75_29, rfl, HA, HJ29, BK331, HB⟩ := hcut
      cases kq with
      | zero => exact absurd HA.out (by simp [F0.j2])
      | succ kj29 =>
       have H := HA.out
       clear HA
       simp only [F0.j2] at H
       by_cases c35 : x75_29 = true
       ·
        subst c35
        rw [if_pos rfl] at H
        obtain rfl := Option.some.inj H
        go_wp2
        repeat (go_quiet (fail); try go_wp2)
        go_ret
        exact ⟨fe, bh HB⟩
       replace c35 := Bool.eq_false_iff.mpr c35
       subst c35
       rw [if_neg (show ¬ (false = true) by decide)] at H
       have HC36 := am_ H
       clear H
       go_upto_region 12 with (fail)
       repeat (go_quiet (fail); go_upto_region 12 with (fail))
       go_cut [93] (fun v93 wc => ∃ (kq : Nat) (x93_35 : Bool), v93 = .bool x93_35 ∧ Asc (F0.j3 kq x93_35 a0_0 a0_1 l0_2 l0_3 a0_4 a0_5 = some r) ∧ Asc (kq ≤ kj29) ∧ Asc (wc.heap[gb331]? = some (.cells #[.int .i64 a0_0, .int .i64 a0_1, (.slice A0_2 l0_2.length c0_2), (.slice A0_3 l0_3.length c0_3), .int .i64 a0_4, .int .i64 a0_5] 35 (0, 0))) ∧ Asc (Below w.heap.size w wc))
       case first =>
        have H := HC36.out
        clear HC36
        by_cases c37 : a0_1 > 1
        ·
         rw [if_pos c37] at H
         have c37b0 : decide (1 < a0_1) = true := decide_eq_true c37
         clear c37
         (first | rw [c37b0] | (simp only [i64_w, i32_w]; rw [c37b0]) | skip)
         replace H := Option.bind_eq_some_iff.mp H
         obtain ⟨t336, A380, H⟩ := H
         replace H : (if (l0_3.length : Int) < t336 then (F0.j3 kj29 true a0_0 a0_1 l0_2 l0_3 a0_4 a0_5) else (F0.j3 kj29 (decide ((l0_3.length : Int) > a1)) a0_0 a0_1 l0_2 l0_3 a0_4 a0_5)) = some r := H
         have A38 := am_ A380
         clear A380
         by_cases c39 : (l0_3.length : Int) < t336
         ·
          rw [if_pos c39] at H
          have c39b0 : decide ((l0_3.length : Int) < t336) = true := decide_eq_true c39
          clear c39
          have H' := am_ H
          clear H
          obtain ⟨z40_0, z40_1, z40_2, z40_3, z40_4, z40_5, y40_0, y40_1, y40_2, y40_3, y40_4, y40_5⟩ := bx6 BK331
          go_wp2_with (first | (go_at_call 128; (with_reducible refine (G9.calls a1 t336 _ A38.out).mono ?_); rintro e w' ⟨rfl, ⟨nd, rfl⟩⟩; (try first | exact ⟨rfl, _, World.drewN_drewN _ _ _⟩ | exact ⟨rfl, _, Eq.trans (World.drewN_drewN _ _ _) (congrArg (World.drewN _) (Nat.add_assoc _ _ _))⟩)))
          (try simp only [Act.put, List.setIfInBounds_toArray, List.set_cons_zero, List.set_cons_succ])
          repeat (go_quiet (first | (go_at_call 128; (with_reducible refine (G9.calls a1 t336 _ A38.out).mono ?_); rintro e w' ⟨rfl, ⟨nd, rfl⟩⟩; (try first | exact ⟨rfl, _, World.drewN_drewN _ _ _⟩ | exact ⟨rfl, _, Eq.trans (World.drewN_drewN _ _ _) (congrArg (World.drewN _) (Nat.add_assoc _ _ _))⟩))); try go_wp2_with (first | (go_at_call 128; (with_reducible refine (G9.calls a1 t336 _ A38.out).mono ?_); rintro e w' ⟨rfl, ⟨nd, rfl⟩⟩; (try first | exact ⟨rfl, _, World.drewN_drewN _ _ _⟩ | exact ⟨rfl, _, Eq.trans (World.drewN_drewN _ _ _) (congrArg (World.drewN _) (Nat.add_assoc _ _ _))⟩))))
          go_meet
          case rel => exact ⟨_, (true), fr, H', ⟨by have := HJ3.out; have := HK2.out; have := HJ29.out; first | omega | exact Nat.le_refl _⟩, ⟨gB BK331⟩, ⟨bh HB⟩⟩
         rw [if_neg c39] at H
         have c39b0 : decide ((l0_3.length : Int) < t336) = false := decide_eq_false c39
         clear c39
         have H' := am_ H
         clear H
         obtain ⟨z41_0, z41_1, z41_2, z41_3, z41_4, z41_5, y41_0, y41_1, y41_2, y41_3, y41_4, y41_5⟩ := bx6 BK331
         go_wp2_with (first | (go_at_call 128; (with_reducible refine (G9.calls a1 t336 _ A38.out).mono ?_); rintro e w' ⟨rfl, ⟨nd, rfl⟩⟩; (try first | exact ⟨rfl, _, World.drewN_drewN _ _ _⟩ | exact ⟨rfl, _, Eq.trans (World.drewN_drewN _ _ _) (congrArg (World.drewN _) (Nat.add_assoc _ _ _))⟩)))
         (try simp only [Act.put, List.setIfInBounds_toArray, List.set_cons_zero, List.set_cons_succ])
         repeat (go_quiet (first | (go_at_call 128; (with_reducible refine (G9.calls a1 t336 _ A38.out).mono ?_); rintro e w' ⟨rfl, ⟨nd, rfl⟩⟩; (try first | exact ⟨rfl, _, World.drewN_drewN _ _ _⟩ | exact ⟨rfl, _, Eq.trans (World.drewN_drewN _ _ _) (congrArg (World.drewN _) (Nat.add_assoc _ _ _))⟩))); try go_wp2_with (first | (go_at_call 128; (with_reducible refine (G9.calls a1 t336 _ A38.out).mono ?_); rintro e w' ⟨rfl, ⟨nd, rfl⟩⟩; (try first | exact ⟨rfl, _, World.drewN_drewN _ _ _⟩ | exact ⟨rfl, _, Eq.trans (World.drewN_drewN _ _ _) (congrArg (World.drewN _) (Nat.add_assoc _ _ _))⟩))))
         go_meet
         case rel => exact ⟨_, (decide ((l0_3.length : Int) > a1)), fr, H', ⟨by have := HJ3.out; have := HK2.out; have := HJ29.out; first | omega | exact Nat.le_refl _⟩, ⟨gB BK331⟩, ⟨bh HB⟩⟩
        rw [if_neg c37] at H
        have c37b0 : decide (1 < a0_1) = false := decide_eq_false c37
        clear c37
        (first | rw [c37b0] | (simp only [i64_w, i32_w]; rw [c37b0]) | skip)
        have H' := am_ H
        clear H
        obtain ⟨z42_0, z42_1, z42_2, z42_3, z42_4, z42_5, y42_0, y42_1, y42_2, y42_3, y42_4, y42_5⟩ := bx6 BK331
        go_wp2
        repeat (go_quiet (fail); try go_wp2)
        go_meet
        case rel => exact ⟨_, (false), fr, H', ⟨by have := HJ3.out; have := HK2.out; have := HJ29.out; first | omega | exact Nat.le_refl _⟩, ⟨gB BK331⟩, ⟨bh HB⟩⟩
       case rest =>
        clear HC36
        try clear c35
        obtain ⟨kq, x93_35, rfl, HA, HJ35, BK331, HB⟩ := hcut
        cases kq with
        | zero => exact absurd HA.out (by simp [F0.j3])
        | succ kj35 =>
         have H := HA.out
         clear HA
         simp only [F0.j3] at H
         by_cases c43 : x93_35 = true
         ·
          subst c43
          rw [if_pos rfl] at H
          obtain rfl := Option.some.inj H
          go_wp2
          repeat (go_quiet (fail); try go_wp2)
          go_ret
          exact ⟨fe, bh HB⟩
         replace c43 := Bool.eq_false_iff.mpr c43
         subst c43
         rw [if_neg (show ¬ (false = true) by decide)] at H
         have H' := am_ H
         clear H
         go_wp2
         repeat (go_quiet (fail); try go_wp2)
         go_loopg [8] kj35 (fun kq v8 w' => ∃ (x8_5 : Int), v8 = .int .i64 x8_5 ∧ Asc (F0.l1 kq x8_5 a0_0 a0_1 l0_2 l0_3 a0_4 a0_5 = some r) ∧ Asc (kq ≤ kj35) ∧ Asc (w'.heap[gb331]? = some (.cells #[.int .i64 a0_0, .int .i64 a0_1, (.slice A0_2 l0_2.length c0_2), (.slice A0_3 l0_3.length c0_3), .int .i64 a0_4, .int .i64 a0_5] 35 (0, 0))) ∧ Asc (Below w.heap.size w w'))
         case atStart => exact ⟨(0), fr, H', ⟨Nat.le_refl _⟩, ⟨gB BK331⟩, ⟨bh HB⟩⟩
         case round =>
          clear H'
          try clear c43
          obtain ⟨x8_5, rfl, HA, HK5, BK331, HB⟩ := hrel
          cases gk with
          | zero => exact absurd HA.out (by simp [F0.l1])
          | succ k5 =>
           have H := HA.out
           clear HA
           simp only [F0.l1] at H
           by_cases c44 : x8_5 < (l0_3.length : Int)
           ·
            rw [if_pos c44] at H
            have c44b0 : decide (x8_5 < (l0_3.length : Int)) = true := decide_eq_true c44
            clear c44
            revert H
            refine gi (fun c45b0 H => ?_)
            by_cases c46 : ((rdOf ByteArray.empty l0_3 x8_5).size : Int) = 32
            ·
             rw [if_pos c46] at H
             have c46b0 : (((rdOf ByteArray.empty l0_3 x8_5).size : Int) == 32) = true := beq_iff_eq.mpr c46
             have c46b1 : (((rdOf ByteArray.empty l0_3 x8_5).size : Int) != 32) = false := bne_eq_false_iff_eq.mpr c46
             clear c46
             by_cases c47 : x8_5 > 0
             ·
              rw [if_pos c47] at H
              have c47b0 : decide (0 < x8_5) = true := decide_eq_true c47
              clear c47
              obtain ⟨ji48, hji48⟩ : ∃ j_ : Int, (wrap64 (x8_5 - 1)) = j_ := ⟨_, rfl⟩
              replace H : (if 0 ≤ (ji48) then (if (ji48) < (l0_3.length : Int) then ((F6.f k5 (rdOf ByteArray.empty l0_3 (ji48)) (rdOf ByteArray.empty l0_3 x8_5)).bind fun t342 => (if t342 = true then (F0.l1 k5 (wrap64 (x8_5 + 1)) a0_0 a0_1 l0_2 l0_3 a0_4 a0_5) else (some false))) else (none)) else (none)) = some r := by first | (rw [hji48] at H; exact H) | (simp only [hji48] at H ⊢; exact H)
              have hji48w : (IntKind.i64.wrap (x8_5 - 1)) = ji48 := (i64_w _).trans hji48
              revert H
              refine gi (fun c49b0 H => ?_)
              revert H
              refine gi (fun c50b0 H => ?_)
              replace H := Option.bind_eq_some_iff.mp H
              obtain ⟨t342, A510, H⟩ := H
              replace H : (if t342 = true then (F0.l1 k5 (wrap64 (x8_5 + 1)) a0_0 a0_1 l0_2 l0_3 a0_4 a0_5) else (some false)) = some r := H
              have A51 := am_ A510
              clear A510
              by_cases c52 : t342 = true
              ·
               subst c52
               rw [if_pos rfl] at H
               have H' := am_ H
               clear H
               obtain ⟨z53_0, z53_1, z53_2, z53_3, z53_4, z53_5, y53_0, y53_1, y53_2, y53_3, y53_4, y53_5⟩ := bx6 BK331
               have p339 : 0 ≤ (x8_5 : Int) := dt
               have q339 : x8_5 < (l0_3.length : Int) := dt
               obtain ⟨ad339, e339, hx339_0⟩ := Kd.at_string HR0_3.out x8_5 p339 q339
               cases e339
               replace hx339_0 := ce HB hx339_0
               replace p339 := eq_true p339
               replace q339 := eq_true q339
               have p340 : 0 ≤ ((ji48) : Int) := dt
               have q340 : (ji48) < (l0_3.length : Int) := dt
               obtain ⟨ad340, e340, hx340_0⟩ := Kd.at_string HR0_3.out (ji48) p340 q340
               obtain rfl : ad339 = ad340 := (by injection e340)
               replace hx340_0 := ce HB hx340_0
               replace p340 := eq_true p340
               replace q340 := eq_true q340
               have p341 : 0 ≤ (x8_5 : Int) := dt
               have q341 : x8_5 < (l0_3.length : Int) := dt
               obtain ⟨ad341, e341, hx341_0⟩ := Kd.at_string HR0_3.out x8_5 p341 q341
               obtain rfl : ad339 = ad341 := (by injection e341)
               replace hx341_0 := ce HB hx341_0
               replace p341 := eq_true p341
               replace q341 := eq_true q341
               go_wp2_with (first | (go_at_call 85; (with_reducible refine (F6.calls k5 (rdOf ByteArray.empty l0_3 (ji48)) (rdOf ByteArray.empty l0_3 x8_5) true _ A51.out).mono ?_); rintro e w' ⟨rfl, ⟨nd, rfl⟩⟩; (try first | exact ⟨rfl, _, World.drewN_drewN _ _ _⟩ | exact ⟨rfl, _, Eq.trans (World.drewN_drewN _ _ _) (congrArg (World.drewN _) (Nat.add_assoc _ _ _))⟩)))
               (try simp only [Act.put, List.setIfInBounds_toArray, List.set_cons_zero, List.set_cons_succ])
               repeat (go_quiet (first | (go_at_call 85; (with_reducible refine (F6.calls k5 (rdOf ByteArray.empty l0_3 (ji48)) (rdOf ByteArray.empty l0_3 x8_5) true _ A51.out).mono ?_); rintro e w' ⟨rfl, ⟨nd, rfl⟩⟩; (try first | exact ⟨rfl, _, World.drewN_drewN _ _ _⟩ | exact ⟨rfl, _, Eq.trans (World.drewN_drewN _ _ _) (congrArg (World.drewN _) (Nat.add_assoc _ _ _))⟩))); try go_wp2_with (first | (go_at_call 85; (with_reducible refine (F6.calls k5 (rdOf ByteArray.empty l0_3 (ji48)) (rdOf ByteArray.empty l0_3 x8_5) true _ A51.out).mono ?_); rintro e w' ⟨rfl, ⟨nd, rfl⟩⟩; (try first | exact ⟨rfl, _, World.drewN_drewN _ _ _⟩ | exact ⟨rfl, _, Eq.trans (World.drewN_drewN _ _ _) (congrArg (World.drewN _) (Nat.add_assoc _ _ _))⟩))))
               go_roundg k5
               case measure => have := HJ3.out; have := HK2.out; have := HJ29.out; have := HJ35.out; have := HK5.out; omega
               case rel => exact ⟨(wrap64 (x8_5 + 1)), fr, H', ⟨by have := HJ3.out; have := HK2.out; have := HJ29.out; have := HJ35.out; have := HK5.out; omega⟩, ⟨gB BK331⟩, ⟨bh HB⟩⟩
              replace c52 := Bool.eq_false_iff.mpr c52
              subst c52
              rw [if_neg (show ¬ (false = true) by decide)] at H
              obtain rfl := Option.some.inj H
              obtain ⟨z54_0, z54_1, z54_2, z54_3, z54_4, z54_5, y54_0, y54_1, y54_2, y54_3, y54_4, y54_5⟩ := bx6 BK331
              have p339 : 0 ≤ (x8_5 : Int) := dt
              have q339 : x8_5 < (l0_3.length : Int) := dt
              obtain ⟨ad339, e339, hx339_0⟩ := Kd.at_string HR0_3.out x8_5 p339 q339
              cases e339
              replace hx339_0 := ce HB hx339_0
              replace p339 := eq_true p339
              replace q339 := eq_true q339
              have p340 : 0 ≤ ((ji48) : Int) := dt
              have q340 : (ji48) < (l0_3.length : Int) := dt
              obtain ⟨ad340, e340, hx340_0⟩ := Kd.at_string HR0_3.out (ji48) p340 q340
              obtain rfl : ad339 = ad340 := (by injection e340)
              replace hx340_0 := ce HB hx340_0
              replace p340 := eq_true p340
              replace q340 := eq_true q340
              have p341 : 0 ≤ (x8_5 : Int) := dt
              have q341 : x8_5 < (l0_3.length : Int) := dt
              obtain ⟨ad341, e341, hx341_0⟩ := Kd.at_string HR0_3.out x8_5 p341 q341
              obtain rfl : ad339 = ad341 := (by injection e341)
              replace hx341_0 := ce HB hx341_0
              replace p341 := eq_true p341
              replace q341 := eq_true q341
              go_wp2_with (first | (go_at_call 85; (with_reducible refine (F6.calls k5 (rdOf ByteArray.empty l0_3 (ji48)) (rdOf ByteArray.empty l0_3 x8_5) false _ A51.out).mono ?_); rintro e w' ⟨rfl, ⟨nd, rfl⟩⟩; (try first | exact ⟨rfl, _, World.drewN_drewN _ _ _⟩ | exact ⟨rfl, _, Eq.trans (World.drewN_drewN _ _ _) (congrArg (World.drewN _) (Nat.add_assoc _ _ _))⟩)))
              (try simp only [Act.put, List.setIfInBounds_toArray, List.set_cons_zero, List.set_cons_succ])
              repeat (go_quiet (first | (go_at_call 85; (with_reducible refine (F6.calls k5 (rdOf ByteArray.empty l0_3 (ji48)) (rdOf ByteArray.empty l0_3 x8_5) false _ A51.out).mono ?_); rintro e w' ⟨rfl, ⟨nd, rfl⟩⟩; (try first | exact ⟨rfl, _, World.drewN_drewN _ _ _⟩ | exact ⟨rfl, _, Eq.trans (World.drewN_drewN _ _ _) (congrArg (World.drewN _) (Nat.add_assoc _ _ _))⟩))); try go_wp2_with (first | (go_at_call 85; (with_reducible refine (F6.calls k5 (rdOf ByteArray.empty l0_3 (ji48)) (rdOf ByteArray.empty l0_3 x8_5) false _ A51.out).mono ?_); rintro e w' ⟨rfl, ⟨nd, rfl⟩⟩; (try first | exact ⟨rfl, _, World.drewN_drewN _ _ _⟩ | exact ⟨rfl, _, Eq.trans (World.drewN_drewN _ _ _) (congrArg (World.drewN _) (Nat.add_assoc _ _ _))⟩))))
              go_ret
              exact ⟨by first | rfl | (simp [errW_none, errW_some] <;> rfl) | (simp only [← hji48]; first | rfl | (simp [errW_none, errW_some] <;> rfl)) | (simp [*, errW_none, errW_some] <;> rfl), bh HB⟩
             rw [if_neg c47] at H
             have c47b0 : decide (0 < x8_5) = false := decide_eq_false c47
             clear c47
             have H' := am_ H
             clear H
             obtain ⟨z55_0, z55_1, z55_2, z55_3, z55_4, z55_5, y55_0, y55_1, y55_2, y55_3, y55_4, y55_5⟩ := bx6 BK331
             have p339 : 0 ≤ (x8_5 : Int) := dt
             have q339 : x8_5 < (l0_3.length : Int) := dt
             obtain ⟨ad339, e339, hx339_0⟩ := Kd.at_string HR0_3.out x8_5 p339 q339
             cases e339
             replace hx339_0 := ce HB hx339_0
             replace p339 := eq_true p339
             replace q339 := eq_true q339
             go_wp2
             repeat (go_quiet (fail); try go_wp2)
             go_roundg k5
             case measure => have := HJ3.out; have := HK2.out; have := HJ29.out; have := HJ35.out; have := HK5.out; omega
             case rel => exact ⟨(wrap64 (x8_5 + 1)), fr, H', ⟨by have := HJ3.out; have := HK2.out; have := HJ29.out; have := HJ35.out; have := HK5.out; omega⟩, ⟨gB BK331⟩, ⟨bh HB⟩⟩
            rw [if_neg c46] at H
            have c46b0 : (((rdOf ByteArray.empty l0_3 x8_5).size : Int) == 32) = false := beq_eq_false_iff_ne.mpr c46
            have c46b1 : (((rdOf ByteArray.empty l0_3 x8_5).size : Int) != 32) = true := bne_iff_ne.mpr c46
            obtain rfl := Option.some.inj H
            obtain ⟨z56_0, z56_1, z56_2, z56_3, z56_4, z56_5, y56_0, y56_1, y56_2, y56_3, y56_4, y56_5⟩ := bx6 BK331
            have p339 : 0 ≤ (x8_5 : Int) := dt
            have q339 : x8_5 < (l0_3.length : Int) := dt
            obtain ⟨ad339, e339, hx339_0⟩ := Kd.at_string HR0_3.out x8_5 p339 q339
            cases e339
            replace hx339_0 := ce HB hx339_0
            replace p339 := eq_true p339
            replace q339 := eq_true q339
            go_wp2
            repeat (go_quiet (fail); try go_wp2)
            go_ret
            exact ⟨fe, bh HB⟩
           rw [if_neg c44] at H
           have c44b0 : decide (x8_5 < (l0_3.length : Int)) = false := decide_eq_false c44
           clear c44
           replace H := Option.bind_eq_some_iff.mp H
           obtain ⟨t337, A570, H⟩ := H
           replace H : ((G0.f a0_1).bind fun t338 => (if t337 = true then (if t338 = true then (some true) else (if a0_4 = 0 then (some (a0_5 == 0)) else (some false))) else (some false))) = some r := H
           have A57 := am_ A570
           clear A570
           replace H := Option.bind_eq_some_iff.mp H
           obtain ⟨t338, A580, H⟩ := H
           replace H : (if t337 = true then (if t338 = true then (some true) else (if a0_4 = 0 then (some (a0_5 == 0)) else (some false))) else (some false)) = some r := H
           have A58 := am_ A580
           clear A580
           by_cases c59 : t337 = true
           ·
            subst c59
            rw [if_pos rfl] at H
            by_cases c60 : t338 = true
            ·
             subst c60
             rw [if_pos rfl] at H
             obtain rfl := Option.some.inj H
             obtain ⟨z61_0, z61_1, z61_2, z61_3, z61_4, z61_5, y61_0, y61_1, y61_2, y61_3, y61_4, y61_5⟩ := bx6 BK331
             go_wp2_with (first | (go_at_call 110; (with_reducible refine (F9.calls a0_4 a0_5 true _ A57.out).mono ?_); rintro e w62 ⟨rfl, hb⟩; replace BK331 := tBb BK331 hb; replace HB := tHb HB hb; (try clear hb); obtain ⟨z63_0, z63_1, z63_2, z63_3, z63_4, z63_5, y63_0, y63_1, y63_2, y63_3, y63_4, y63_5⟩ := bx6 BK331) | (go_at_call 129; (with_reducible refine (G0.calls a0_1 true _ A58.out).mono ?_); rintro e w' ⟨rfl, ⟨nd, rfl⟩⟩; (try first | exact ⟨rfl, _, World.drewN_drewN _ _ _⟩ | exact ⟨rfl, _, Eq.trans (World.drewN_drewN _ _ _) (congrArg (World.drewN _) (Nat.add_assoc _ _ _))⟩)))
             (try simp only [Act.put, List.setIfInBounds_toArray, List.set_cons_zero, List.set_cons_succ])
             repeat (go_quiet (first | (go_at_call 110; (with_reducible refine (F9.calls a0_4 a0_5 true _ A57.out).mono ?_); rintro e w62 ⟨rfl, hb⟩; replace BK331 := tBb BK331 hb; replace HB := tHb HB hb; (try clear hb); obtain ⟨z63_0, z63_1, z63_2, z63_3, z63_4, z63_5, y63_0, y63_1, y63_2, y63_3, y63_4, y63_5⟩ := bx6 BK331) | (go_at_call 129; (with_reducible refine (G0.calls a0_1 true _ A58.out).mono ?_); rintro e w' ⟨rfl, ⟨nd, rfl⟩⟩; (try first | exact ⟨rfl, _, World.drewN_drewN _ _ _⟩ | exact ⟨rfl, _, Eq.trans (World.drewN_drewN _ _ _) (congrArg (World.drewN _) (Nat.add_assoc _ _ _))⟩))); try go_wp2_with (first | (go_at_call 110; (with_reducible refine (F9.calls a0_4 a0_5 true _ A57.out).mono ?_); rintro e w62 ⟨rfl, hb⟩; replace BK331 := tBb BK331 hb; replace HB := tHb HB hb; (try clear hb); obtain ⟨z63_0, z63_1, z63_2, z63_3, z63_4, z63_5, y63_0, y63_1, y63_2, y63_3, y63_4, y63_5⟩ := bx6 BK331) | (go_at_call 129; (with_reducible refine (G0.calls a0_1 true _ A58.out).mono ?_); rintro e w' ⟨rfl, ⟨nd, rfl⟩⟩; (try first | exact ⟨rfl, _, World.drewN_drewN _ _ _⟩ | exact ⟨rfl, _, Eq.trans (World.drewN_drewN _ _ _) (congrArg (World.drewN _) (Nat.add_assoc _ _ _))⟩))))
             go_ret
             exact ⟨fe, bh HB⟩
            replace c60 := Bool.eq_false_iff.mpr c60
            subst c60
            rw [if_neg (show ¬ (false = true) by decide)] at H
            by_cases c64 : a0_4 = 0
            ·
             rw [if_pos c64] at H
             have c64b0 : (a0_4 == 0) = true := beq_iff_eq.mpr c64
             have c64b1 : (a0_4 != 0) = false := bne_eq_false_iff_eq.mpr c64
             clear c64
             obtain rfl := Option.some.inj H
             obtain ⟨z65_0, z65_1, z65_2, z65_3, z65_4, z65_5, y65_0, y65_1, y65_2, y65_3, y65_4, y65_5⟩ := bx6 BK331
             go_wp2_with (first | (go_at_call 110; (with_reducible refine (F9.calls a0_4 a0_5 true _ A57.out).mono ?_); rintro e w66 ⟨rfl, hb⟩; replace BK331 := tBb BK331 hb; replace HB := tHb HB hb; (try clear hb); obtain ⟨z67_0, z67_1, z67_2, z67_3, z67_4, z67_5, y67_0, y67_1, y67_2, y67_3, y67_4, y67_5⟩ := bx6 BK331) | (go_at_call 129; (with_reducible refine (G0.calls a0_1 false _ A58.out).mono ?_); rintro e w' ⟨rfl, ⟨nd, rfl⟩⟩; (try first | exact ⟨rfl, _, World.drewN_drewN _ _ _⟩ | exact ⟨rfl, _, Eq.trans (World.drewN_drewN _ _ _) (congrArg (World.drewN _) (Nat.add_assoc _ _ _))⟩)))
             (try simp only [Act.put, List.setIfInBounds_toArray, List.set_cons_zero, List.set_cons_succ])
             repeat (go_quiet (first | (go_at_call 110; (with_reducible refine (F9.calls a0_4 a0_5 true _ A57.out).mono ?_); rintro e w66 ⟨rfl, hb⟩; replace BK331 := tBb BK331 hb; replace HB := tHb HB hb; (try clear hb); obtain ⟨z67_0, z67_1, z67_2, z67_3, z67_4, z67_5, y67_0, y67_1, y67_2, y67_3, y67_4, y67_5⟩ := bx6 BK331) | (go_at_call 129; (with_reducible refine (G0.calls a0_1 false _ A58.out).mono ?_); rintro e w' ⟨rfl, ⟨nd, rfl⟩⟩; (try first | exact ⟨rfl, _, World.drewN_drewN _ _ _⟩ | exact ⟨rfl, _, Eq.trans (World.drewN_drewN _ _ _) (congrArg (World.drewN _) (Nat.add_assoc _ _ _))⟩))); try go_wp2_with (first | (go_at_call 110; (with_reducible refine (F9.calls a0_4 a0_5 true _ A57.out).mono ?_); rintro e w66 ⟨rfl, hb⟩; replace BK331 := tBb BK331 hb; replace HB := tHb HB hb; (try clear hb); obtain ⟨z67_0, z67_1, z67_2, z67_3, z67_4, z67_5, y67_0, y67_1, y67_2, y67_3, y67_4, y67_5⟩ := bx6 BK331) | (go_at_call 129; (with_reducible refine (G0.calls a0_1 false _ A58.out).mono ?_); rintro e w' ⟨rfl, ⟨nd, rfl⟩⟩; (try first | exact ⟨rfl, _, World.drewN_drewN _ _ _⟩ | exact ⟨rfl, _, Eq.trans (World.drewN_drewN _ _ _) (congrArg (World.drewN _) (Nat.add_assoc _ _ _))⟩))))
             go_ret
             exact ⟨fe, bh HB⟩
            rw [if_neg c64] at H
            have c64b0 : (a0_4 == 0) = false := beq_eq_false_iff_ne.mpr c64
            have c64b1 : (a0_4 != 0) = true := bne_iff_ne.mpr c64
            obtain rfl := Option.some.inj H
            obtain ⟨z68_0, z68_1, z68_2, z68_3, z68_4, z68_5, y68_0, y68_1, y68_2, y68_3, y68_4, y68_5⟩ := bx6 BK331
            go_wp2_with (first | (go_at_call 110; (with_reducible refine (F9.calls a0_4 a0_5 true _ A57.out).mono ?_); rintro e w69 ⟨rfl, hb⟩; replace BK331 := tBb BK331 hb; replace HB := tHb HB hb; (try clear hb); obtain ⟨z70_0, z70_1, z70_2, z70_3, z70_4, z70_5, y70_0, y70_1, y70_2, y70_3, y70_4, y70_5⟩ := bx6 BK331) | (go_at_call 129; (with_reducible refine (G0.calls a0_1 false _ A58.out).mono ?_); rintro e w' ⟨rfl, ⟨nd, rfl⟩⟩; (try first | exact ⟨rfl, _, World.drewN_drewN _ _ _⟩ | exact ⟨rfl, _, Eq.trans (World.drewN_drewN _ _ _) (congrArg (World.drewN _) (Nat.add_assoc _ _ _))⟩)))
            (try simp only [Act.put, List.setIfInBounds_toArray, List.set_cons_zero, List.set_cons_succ])
            repeat (go_quiet (first | (go_at_call 110; (with_reducible refine (F9.calls a0_4 a0_5 true _ A57.out).mono ?_); rintro e w69 ⟨rfl, hb⟩; replace BK331 := tBb BK331 hb; replace HB := tHb HB hb; (try clear hb); obtain ⟨z70_0, z70_1, z70_2, z70_3, z70_4, z70_5, y70_0, y70_1, y70_2, y70_3, y70_4, y70_5⟩ := bx6 BK331) | (go_at_call 129; (with_reducible refine (G0.calls a0_1 false _ A58.out).mono ?_); rintro e w' ⟨rfl, ⟨nd, rfl⟩⟩; (try first | exact ⟨rfl, _, World.drewN_drewN _ _ _⟩ | exact ⟨rfl, _, Eq.trans (World.drewN_drewN _ _ _) (congrArg (World.drewN _) (Nat.add_assoc _ _ _))⟩))); try go_wp2_with (first | (go_at_call 110; (with_reducible refine (F9.calls a0_4 a0_5 true _ A57.out).mono ?_); rintro e w69 ⟨rfl, hb⟩; replace BK331 := tBb BK331 hb; replace HB := tHb HB hb; (try clear hb); obtain ⟨z70_0, z70_1, z70_2, z70_3, z70_4, z70_5, y70_0, y70_1, y70_2, y70_3, y70_4, y70_5⟩ := bx6 BK331) | (go_at_call 129; (with_reducible refine (G0.calls a0_1 false _ A58.out).mono ?_); rintro e w' ⟨rfl, ⟨nd, rfl⟩⟩; (try first | exact ⟨rfl, _, World.drewN_drewN _ _ _⟩ | exact ⟨rfl, _, Eq.trans (World.drewN_drewN _ _ _) (congrArg (World.drewN _) (Nat.add_assoc _ _ _))⟩))))
            go_ret
            exact ⟨fe, bh HB⟩
           replace c59 := Bool.eq_false_iff.mpr c59
           subst c59
           rw [if_neg (show ¬ (false = true) by decide)] at H
           obtain rfl := Option.some.inj H
           obtain ⟨z71_0, z71_1, z71_2, z71_3, z71_4, z71_5, y71_0, y71_1, y71_2, y71_3, y71_4, y71_5⟩ := bx6 BK331
           go_wp2_with (first | (go_at_call 110; (with_reducible refine (F9.calls a0_4 a0_5 false _ A57.out).mono ?_); rintro e w72 ⟨rfl, hb⟩; replace BK331 := tBb BK331 hb; replace HB := tHb HB hb; (try clear hb); obtain ⟨z73_0, z73_1, z73_2, z73_3, z73_4, z73_5, y73_0, y73_1, y73_2, y73_3, y73_4, y73_5⟩ := bx6 BK331) | (go_at_call 129; (with_reducible refine (G0.calls a0_1 t338 _ A58.out).mono ?_); rintro e w' ⟨rfl, ⟨nd, rfl⟩⟩; (try first | exact ⟨rfl, _, World.drewN_drewN _ _ _⟩ | exact ⟨rfl, _, Eq.trans (World.drewN_drewN _ _ _) (congrArg (World.drewN _) (Nat.add_assoc _ _ _))⟩)))
           (try simp only [Act.put, List.setIfInBounds_toArray, List.set_cons_zero, List.set_cons_succ])
           repeat (go_quiet (first | (go_at_call 110; (with_reducible refine (F9.calls a0_4 a0_5 false _ A57.out).mono ?_); rintro e w72 ⟨rfl, hb⟩; replace BK331 := tBb BK331 hb; replace HB := tHb HB hb; (try clear hb); obtain ⟨z73_0, z73_1, z73_2, z73_3, z73_4, z73_5, y73_0, y73_1, y73_2, y73_3, y73_4, y73_5⟩ := bx6 BK331) | (go_at_call 129; (with_reducible refine (G0.calls a0_1 t338 _ A58.out).mono ?_); rintro e w' ⟨rfl, ⟨nd, rfl⟩⟩; (try first | exact ⟨rfl, _, World.drewN_drewN _ _ _⟩ | exact ⟨rfl, _, Eq.trans (World.drewN_drewN _ _ _) (congrArg (World.drewN _) (Nat.add_assoc _ _ _))⟩))); try go_wp2_with (first | (go_at_call 110; (with_reducible refine (F9.calls a0_4 a0_5 false _ A57.out).mono ?_); rintro e w72 ⟨rfl, hb⟩; replace BK331 := tBb BK331 hb; replace HB := tHb HB hb; (try clear hb); obtain ⟨z73_0, z73_1, z73_2, z73_3, z73_4, z73_5, y73_0, y73_1, y73_2, y73_3, y73_4, y73_5⟩ := bx6 BK331) | (go_at_call 129; (with_reducible refine (G0.calls a0_1 t338 _ A58.out).mono ?_); rintro e w' ⟨rfl, ⟨nd, rfl⟩⟩; (try first | exact ⟨rfl, _, World.drewN_drewN _ _ _⟩ | exact ⟨rfl, _, Eq.trans (World.drewN_drewN _ _ _) (congrArg (World.drewN _) (Nat.add_assoc _ _ _))⟩))))
           go_ret
           exact ⟨fe, bh HB⟩

end Go.Proofs.Ytcbfnmabckjijaa.PTuskStops
