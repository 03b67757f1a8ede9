-- written by a program of this session (pp.py), out of the kit's print and this session's contracts
import Derived.Test.YtcbfnmabckjijaaPTuskStopsx0
import Derived.Test.YtcbfnmabckjijaaPTuskStopsx7
import Derived.Test.YtcbfnmabckjijaaVTuskStopsPh
namespace Go.Proofs.Ytcbfnmabckjijaa.PTuskStops
open Go.RowKit Go.Proofs.YtcbfnmabckjijaaW.PrintWords Go.Proofs.YtcbfnmabckjijaaW.PrintLast Go.Proofs.YtcbfnmabckjijaaW.PrintMore
set_option linter.unusedVariables false
set_option linter.unusedSimpArgs false

mutual
def F7.l0 : Nat → List (S37) → List ByteArray → Int → Int → Int → List (S129) → List ByteArray → Int → Int → Option (List ByteArray)
 | 0, _, _, _, _, _, _, _, _, _ => none
 | k + 1, x5, x6, x7, x368000, x368001, x368002, x368003, x368004, x368005 => if x7 < (x368003.length : Int) then (F7.l1 k x5 x6 x7 false 0 x368000 x368001 x368002 x368003 x368004 x368005) else (some x6)
def F7.l1 : Nat → List (S37) → List ByteArray → Int → Bool → Int → Int → Int → List (S129) → List ByteArray → Int → Int → Option (List ByteArray)
 | 0, _, _, _, _, _, _, _, _, _, _, _ => none
 | k + 1, x5, x6, x7, x8, x9, x368000, x368001, x368002, x368003, x368004, x368005 => if x9 < (x5.length : Int) then (if x8 = true then (F7.l1 k x5 x6 x7 true (wrap64 (x9 + 1)) x368000 x368001 x368002 x368003 x368004 x368005) else (if 0 ≤ x9 then (if 0 ≤ x7 then (if x7 < (x368003.length : Int) then (F7.l1 k x5 x6 x7 (((rd_T37 x5 x9).f0).toList == (rdOf ByteArray.empty x368003 x7).toList) (wrap64 (x9 + 1)) x368000 x368001 x368002 x368003 x368004 x368005) else (none)) else (none)) else (none))) else (if x8 = true then (F7.l0 k x5 x6 (wrap64 (x7 + 1)) x368000 x368001 x368002 x368003 x368004 x368005) else (if 0 ≤ x7 then (if x7 < (x368003.length : Int) then (if x6.length < 8796093022208 then (F7.l0 k x5 (x6 ++ [rdOf ByteArray.empty x368003 x7]) (wrap64 (x7 + 1)) x368000 x368001 x368002 x368003 x368004 x368005) else (none)) else (none)) else (none)))
end
def F7.f (k : Nat) (a0_0 : Int) (a0_1 : Int) (l0_2 : List (S37)) (a1_0 : Int) (a1_1 : Int) (l1_2 : List (S129)) (l1_3 : List ByteArray) (a1_4 : Int) (a1_5 : Int) : Option (List ByteArray) := if (wrap64 (a1_1 - 1)) ≤ a0_1 then (some ([] : List ByteArray)) else ((Fe.f k a0_0 a0_1 l0_2 (wrap64 (a1_1 - 1))).bind fun t368 => (F7.l0 k t368 ([] : List ByteArray) 0 a1_0 a1_1 l1_2 l1_3 a1_4 a1_5))
theorem F7.mono_l : ∀ k, (∀ y0 y1 y2 y3 y4 y5 y6 y7 y8, LeO (F7.l0 k y0 y1 y2 y3 y4 y5 y6 y7 y8) (F7.l0 (k + 1) y0 y1 y2 y3 y4 y5 y6 y7 y8)) ∧ (∀ y0 y1 y2 y3 y4 y5 y6 y7 y8 y9 y10, LeO (F7.l1 k y0 y1 y2 y3 y4 y5 y6 y7 y8 y9 y10) (F7.l1 (k + 1) y0 y1 y2 y3 y4 y5 y6 y7 y8 y9 y10))
 | 0 => ⟨fun _ _ _ _ _ _ _ _ _ r h => by simp [F7.l0] at h, fun _ _ _ _ _ _ _ _ _ _ _ r h => by simp [F7.l1] at h⟩
 | k + 1 => by
  obtain ⟨ih0, ih1⟩ := F7.mono_l k
  refine ⟨?_, ?_⟩
  ·
   intro y0 y1 y2 y3 y4 y5 y6 y7 y8
   unfold F7.l0
   repeat' first | (with_reducible first | exact ih0 _ _ _ _ _ _ _ _ _ | exact ih1 _ _ _ _ _ _ _ _ _ _ _ | exact Fe.mono _ _ _ _ _ | exact LeO.refl _ | exact LeO.none _ | refine LeO.ite ?_ ?_ | refine LeO.bind ?_ (fun _ => ?_)) | exact ih0 _ _ _ _ _ _ _ _ _ | exact ih1 _ _ _ _ _ _ _ _ _ _ _ | refine LeO.ite ?_ ?_ | refine LeO.bind ?_ (fun _ => ?_)
  intro y0 y1 y2 y3 y4 y5 y6 y7 y8 y9 y10
  unfold F7.l1
  repeat' first | (with_reducible first | exact ih0 _ _ _ _ _ _ _ _ _ | exact ih1 _ _ _ _ _ _ _ _ _ _ _ | exact Fe.mono _ _ _ _ _ | exact LeO.refl _ | exact LeO.none _ | refine LeO.ite ?_ ?_ | refine LeO.bind ?_ (fun _ => ?_)) | exact ih0 _ _ _ _ _ _ _ _ _ | exact ih1 _ _ _ _ _ _ _ _ _ _ _ | refine LeO.ite ?_ ?_ | refine LeO.bind ?_ (fun _ => ?_)
theorem F7.mono : ∀ a0 a1 a2 a3 a4 a5 a6 a7 a8 k, LeO (F7.f k a0 a1 a2 a3 a4 a5 a6 a7 a8) (F7.f (k + 1) a0 a1 a2 a3 a4 a5 a6 a7 a8) := by
 intro a0 a1 a2 a3 a4 a5 a6 a7 a8 k
 obtain ⟨ih0, ih1⟩ := F7.mono_l k
 unfold F7.f
 repeat' first | (with_reducible first | exact ih0 _ _ _ _ _ _ _ _ _ | exact ih1 _ _ _ _ _ _ _ _ _ _ _ | exact Fe.mono _ _ _ _ _ | exact LeO.refl _ | exact LeO.none _ | refine LeO.ite ?_ ?_ | refine LeO.bind ?_ (fun _ => ?_)) | exact ih0 _ _ _ _ _ _ _ _ _ | exact ih1 _ _ _ _ _ _ _ _ _ _ _ | refine LeO.ite ?_ ?_ | refine LeO.bind ?_ (fun _ => ?_)
set_option maxHeartbeats 8000000 in
set_option maxRecDepth 100000 in
theorem F7.calls (k : Nat) (a0_0 : Int) (a0_1 : Int) (A0_2 : Option Addr) (c0_2 : Nat) (l0_2 : List (S37)) (a1_0 : Int) (a1_1 : Int) (A1_2 : Option Addr) (c1_2 : Nat) (l1_2 : List (S129)) (A1_3 : Option Addr) (c1_3 : Nat) (l1_3 : List ByteArray) (a1_4 : Int) (a1_5 : Int) (r : List ByteArray) (w : World) (hr0_2 : Kd.C k37 w A0_2 l0_2.length l0_2) (hc0_2 : l0_2.length ≤ c0_2) (hr1_2 : Kd.C k129 w A1_2 l1_2.length l1_2) (hc1_2 : l1_2.length ≤ c1_2) (hr1_3 : Kd.C Kd.string w A1_3 l1_3.length l1_3) (hc1_3 : l1_3.length ≤ c1_3) (h : F7.f k a0_0 a0_1 l0_2 a1_0 a1_1 l1_2 l1_3 a1_4 a1_5 = some r) :
  Calls Try.prog 60 #[.agg #[.int .i64 a0_0, .int .i64 a0_1, .slice A0_2 l0_2.length c0_2], .agg #[.int .i64 a1_0, .int .i64 a1_1, .slice A1_2 l1_2.length c1_2, .slice A1_3 l1_3.length c1_3, .int .i64 a1_4, .int .i64 a1_5]] w fun e w' => ∃ v0_ : Value, e = .returned (v0_) ∧ Kd.R Kd.string 9 w' w.heap.size (fun _ => True) v0_ r ∧ Below w.heap.size w w' := by
 have hu24 := Try.underlying24
 have hu35 := Try.underlying35
 have HR0_2 := am_ hr0_2
 have HC0_2 := am_ hc0_2
 clear hr0_2 hc0_2
 have HR1_2 := am_ hr1_2
 have HC1_2 := am_ hc1_2
 clear hr1_2 hc1_2
 have HR1_3 := am_ hr1_3
 have HC1_3 := am_ hc1_3
 clear hr1_3 hc1_3
 have HB := am_ (Below.refl w.heap.size w)
 have H : (if (wrap64 (a1_1 - 1)) ≤ a0_1 then (some ([] : List ByteArray)) else ((Fe.f k a0_0 a0_1 l0_2 (wrap64 (a1_1 - 1))).bind fun t368 => (F7.l0 k t368 ([] : List ByteArray) 0 a1_0 a1_1 l1_2 l1_3 a1_4 a1_5))) = some r := h
 clear h
 by_cases c3 : (wrap64 (a1_1 - 1)) ≤ a0_1
 ·
  rw [if_pos c3] at H
  have c3b0 : decide ((wrap64 (a1_1 - 1)) ≤ a0_1) = true := decide_eq_true c3
  clear c3
  obtain rfl := Option.some.inj H
  go_enter Try.func60, Try.ntmps60
  go_wp2_with (first | ((with_reducible refine gd_ 2 ?_); refine be_ 2 #[.int .i64 a0_0, .int .i64 a0_1, .slice A0_2 l0_2.length c0_2] 24 ?_; intro gb366 hg w4 hbox hb; have BK366 := am_ hbox; have GW366 := tG HB hg; have GE366 := tG HB hg; replace HB := tHb HB hb; clear hb hbox hg) | ((with_reducible refine gd_ 3 ?_); refine be_ 3 #[.int .i64 a1_0, .int .i64 a1_1, .slice A1_2 l1_2.length c1_2, .slice A1_3 l1_3.length c1_3, .int .i64 a1_4, .int .i64 a1_5] 35 ?_; intro gb367 hg w5 hbox hb; have BK367 := am_ hbox; have GW367 := tG HB hg; have GE367 := tG HB hg; replace HB := tHb HB hb; have NB366_367 := tL BK366 hg; have NB367_366 := tR BK366 hg; replace BK366 := tBb BK366 hb; clear hb hbox hg; have hnb6 := NB367_366.out; have hnc6 := NB366_367.out; obtain ⟨z7_0, z7_1, z7_2, z7_3, z7_4, z7_5, y7_0, y7_1, y7_2, y7_3, y7_4, y7_5⟩ := bx6 BK367; obtain ⟨z8_0, z8_1, z8_2, y8_0, y8_1, y8_2⟩ := bx3 BK366))
  (try simp only [Act.put, List.setIfInBounds_toArray, List.set_cons_zero, List.set_cons_succ])
  repeat (go_quiet (first | ((with_reducible refine gd_ 2 ?_); refine be_ 2 #[.int .i64 a0_0, .int .i64 a0_1, .slice A0_2 l0_2.length c0_2] 24 ?_; intro gb366 hg w4 hbox hb; have BK366 := am_ hbox; have GW366 := tG HB hg; have GE366 := tG HB hg; replace HB := tHb HB hb; clear hb hbox hg) | ((with_reducible refine gd_ 3 ?_); refine be_ 3 #[.int .i64 a1_0, .int .i64 a1_1, .slice A1_2 l1_2.length c1_2, .slice A1_3 l1_3.length c1_3, .int .i64 a1_4, .int .i64 a1_5] 35 ?_; intro gb367 hg w5 hbox hb; have BK367 := am_ hbox; have GW367 := tG HB hg; have GE367 := tG HB hg; replace HB := tHb HB hb; have NB366_367 := tL BK366 hg; have NB367_366 := tR BK366 hg; replace BK366 := tBb BK366 hb; clear hb hbox hg; have hnb6 := NB367_366.out; have hnc6 := NB366_367.out; obtain ⟨z7_0, z7_1, z7_2, z7_3, z7_4, z7_5, y7_0, y7_1, y7_2, y7_3, y7_4, y7_5⟩ := bx6 BK367; obtain ⟨z8_0, z8_1, z8_2, y8_0, y8_1, y8_2⟩ := bx3 BK366)); try go_wp2_with (first | ((with_reducible refine gd_ 2 ?_); refine be_ 2 #[.int .i64 a0_0, .int .i64 a0_1, .slice A0_2 l0_2.length c0_2] 24 ?_; intro gb366 hg w4 hbox hb; have BK366 := am_ hbox; have GW366 := tG HB hg; have GE366 := tG HB hg; replace HB := tHb HB hb; clear hb hbox hg) | ((with_reducible refine gd_ 3 ?_); refine be_ 3 #[.int .i64 a1_0, .int .i64 a1_1, .slice A1_2 l1_2.length c1_2, .slice A1_3 l1_3.length c1_3, .int .i64 a1_4, .int .i64 a1_5] 35 ?_; intro gb367 hg w5 hbox hb; have BK367 := am_ hbox; have GW367 := tG HB hg; have GE367 := tG HB hg; replace HB := tHb HB hb; have NB366_367 := tL BK366 hg; have NB367_366 := tR BK366 hg; replace BK366 := tBb BK366 hb; clear hb hbox hg; have hnb6 := NB367_366.out; have hnc6 := NB366_367.out; obtain ⟨z7_0, z7_1, z7_2, z7_3, z7_4, z7_5, y7_0, y7_1, y7_2, y7_3, y7_4, y7_5⟩ := bx6 BK367; obtain ⟨z8_0, z8_1, z8_2, y8_0, y8_1, y8_2⟩ := bx3 BK366)))
  go_ret
  exact ⟨_, fe, kn, bh HB⟩
 rw [if_neg c3] at H
 have c3b0 : decide ((wrap64 (a1_1 - 1)) ≤ a0_1) = false := decide_eq_false c3
 clear c3
 replace H := Option.bind_eq_some_iff.mp H
 obtain ⟨t368, A90, H⟩ := H
 replace H : (F7.l0 k t368 ([] : List ByteArray) 0 a1_0 a1_1 l1_2 l1_3 a1_4 a1_5) = some r := H
 have A9 := am_ A90
 clear A90
 have H' := am_ H
 clear H
 go_enter Try.func60, Try.ntmps60
 go_wp2_with (first | ((with_reducible refine gd_ 2 ?_); refine be_ 2 #[.int .i64 a0_0, .int .i64 a0_1, .slice A0_2 l0_2.length c0_2] 24 ?_; intro gb366 hg w10 hbox hb; have BK366 := am_ hbox; have GW366 := tG HB hg; have GE366 := tG HB hg; replace HB := tHb HB hb; clear hb hbox hg) | ((with_reducible refine gd_ 3 ?_); refine be_ 3 #[.int .i64 a1_0, .int .i64 a1_1, .slice A1_2 l1_2.length c1_2, .slice A1_3 l1_3.length c1_3, .int .i64 a1_4, .int .i64 a1_5] 35 ?_; intro gb367 hg w11 hbox hb; have BK367 := am_ hbox; have GW367 := tG HB hg; have GE367 := tG HB hg; replace HB := tHb HB hb; have NB366_367 := tL BK366 hg; have NB367_366 := tR BK366 hg; replace BK366 := tBb BK366 hb; clear hb hbox hg; have hnb12 := NB367_366.out; have hnc12 := NB366_367.out; obtain ⟨z13_0, z13_1, z13_2, z13_3, z13_4, z13_5, y13_0, y13_1, y13_2, y13_3, y13_4, y13_5⟩ := bx6 BK367; obtain ⟨z14_0, z14_1, z14_2, y14_0, y14_1, y14_2⟩ := bx3 BK366) | (go_at_call 62; (with_reducible refine (Fe.calls k a0_0 a0_1 (fun k_ => k_ < w.heap.size) _ _ l0_2 (wrap64 (a1_1 - 1)) t368 _ ?side1 A9.out).mono ?_); (case side1 => exact Kd.V_mk HC0_2.out (Kd.F_below (Kd.C_F k37_heap HR0_2.out) (bh HB))); rintro e w15 ⟨v369, rfl, ho0, hb⟩; have HO370 := am_ (Kd.N_lower (Kd.N_mono (ok' := fun k_ => k_ ≠ gb366 ∧ k_ ≠ gb367) ho0 (fun k_ hk_ => ⟨Or.elim hk_ (fun hs_ => fun e_ => Nat.not_le.2 hs_ (by rw [e_]; exact GW366.out)) (fun hn_ => (gFr BK366 k_ hn_)), Or.elim hk_ (fun hs_ => fun e_ => Nat.not_le.2 hs_ (by rw [e_]; exact GW367.out)) (fun hn_ => (gFr BK367 k_ hn_))⟩)) (below_size (bh HB))); replace BK366 := tBb BK366 hb; replace BK367 := tBb BK367 hb; replace HB := tHb HB hb; (try clear hb); (try clear ho0)))
 (try simp only [Act.put, List.setIfInBounds_toArray, List.set_cons_zero, List.set_cons_succ])
 repeat (go_quiet (first | ((with_reducible refine gd_ 2 ?_); refine be_ 2 #[.int .i64 a0_0, .int .i64 a0_1, .slice A0_2 l0_2.length c0_2] 24 ?_; intro gb366 hg w10 hbox hb; have BK366 := am_ hbox; have GW366 := tG HB hg; have GE366 := tG HB hg; replace HB := tHb HB hb; clear hb hbox hg) | ((with_reducible refine gd_ 3 ?_); refine be_ 3 #[.int .i64 a1_0, .int .i64 a1_1, .slice A1_2 l1_2.length c1_2, .slice A1_3 l1_3.length c1_3, .int .i64 a1_4, .int .i64 a1_5] 35 ?_; intro gb367 hg w11 hbox hb; have BK367 := am_ hbox; have GW367 := tG HB hg; have GE367 := tG HB hg; replace HB := tHb HB hb; have NB366_367 := tL BK366 hg; have NB367_366 := tR BK366 hg; replace BK366 := tBb BK366 hb; clear hb hbox hg; have hnb12 := NB367_366.out; have hnc12 := NB366_367.out; obtain ⟨z13_0, z13_1, z13_2, z13_3, z13_4, z13_5, y13_0, y13_1, y13_2, y13_3, y13_4, y13_5⟩ := bx6 BK367; obtain ⟨z14_0, z14_1, z14_2, y14_0, y14_1, y14_2⟩ := bx3 BK366) | (go_at_call 62; (with_reducible refine (Fe.calls k a0_0 a0_1 (fun k_ => k_ < w.heap.size) _ _ l0_2 (wrap64 (a1_1 - 1)) t368 _ ?side1 A9.out).mono ?_); (case side1 => exact Kd.V_mk HC0_2.out (Kd.F_below (Kd.C_F k37_heap HR0_2.out) (bh HB))); rintro e w15 ⟨v369, rfl, ho0, hb⟩; have HO370 := am_ (Kd.N_lower (Kd.N_mono (ok' := fun k_ => k_ ≠ gb366 ∧ k_ ≠ gb367) ho0 (fun k_ hk_ => ⟨Or.elim hk_ (fun hs_ => fun e_ => Nat.not_le.2 hs_ (by rw [e_]; exact GW366.out)) (fun hn_ => (gFr BK366 k_ hn_)), Or.elim hk_ (fun hs_ => fun e_ => Nat.not_le.2 hs_ (by rw [e_]; exact GW367.out)) (fun hn_ => (gFr BK367 k_ hn_))⟩)) (below_size (bh HB))); replace BK366 := tBb BK366 hb; replace BK367 := tBb BK367 hb; replace HB := tHb HB hb; (try clear hb); (try clear ho0))); try go_wp2_with (first | ((with_reducible refine gd_ 2 ?_); refine be_ 2 #[.int .i64 a0_0, .int .i64 a0_1, .slice A0_2 l0_2.length c0_2] 24 ?_; intro gb366 hg w10 hbox hb; have BK366 := am_ hbox; have GW366 := tG HB hg; have GE366 := tG HB hg; replace HB := tHb HB hb; clear hb hbox hg) | ((with_reducible refine gd_ 3 ?_); refine be_ 3 #[.int .i64 a1_0, .int .i64 a1_1, .slice A1_2 l1_2.length c1_2, .slice A1_3 l1_3.length c1_3, .int .i64 a1_4, .int .i64 a1_5] 35 ?_; intro gb367 hg w11 hbox hb; have BK367 := am_ hbox; have GW367 := tG HB hg; have GE367 := tG HB hg; replace HB := tHb HB hb; have NB366_367 := tL BK366 hg; have NB367_366 := tR BK366 hg; replace BK366 := tBb BK366 hb; clear hb hbox hg; have hnb12 := NB367_366.out; have hnc12 := NB366_367.out; obtain ⟨z13_0, z13_1, z13_2, z13_3, z13_4, z13_5, y13_0, y13_1, y13_2, y13_3, y13_4, y13_5⟩ := bx6 BK367; obtain ⟨z14_0, z14_1, z14_2, y14_0, y14_1, y14_2⟩ := bx3 BK366) | (go_at_call 62; (with_reducible refine (Fe.calls k a0_0 a0_1 (fun k_ => k_ < w.heap.size) _ _ l0_2 (wrap64 (a1_1 - 1)) t368 _ ?side1 A9.out).mono ?_); (case side1 => exact Kd.V_mk HC0_2.out (Kd.F_below (Kd.C_F k37_heap HR0_2.out) (bh HB))); rintro e w15 ⟨v369, rfl, ho0, hb⟩; have HO370 := am_ (Kd.N_lower (Kd.N_mono (ok' := fun k_ => k_ ≠ gb366 ∧ k_ ≠ gb367) ho0 (fun k_ hk_ => ⟨Or.elim hk_ (fun hs_ => fun e_ => Nat.not_le.2 hs_ (by rw [e_]; exact GW366.out)) (fun hn_ => (gFr BK366 k_ hn_)), Or.elim hk_ (fun hs_ => fun e_ => Nat.not_le.2 hs_ (by rw [e_]; exact GW367.out)) (fun hn_ => (gFr BK367 k_ hn_))⟩)) (below_size (bh HB))); replace BK366 := tBb BK366 hb; replace BK367 := tBb BK367 hb; replace HB := tHb HB hb; (try clear hb); (try clear ho0))))
 go_loopg [6, 7] k (fun kq v6 v7 w' => ∃ (x6_1 : List ByteArray) (x7_1 : Int), v7 = .int .i64 x7_1 ∧ Asc (F7.l0 kq t368 x6_1 x7_1 a1_0 a1_1 l1_2 l1_3 a1_4 a1_5 = some r) ∧ Asc (kq ≤ k) ∧ Asc (Kd.N k37 37 w' w.heap.size (fun k_ => some k_ ≠ (v6 : Value).ownBlock ∧ k_ ≠ gb366 ∧ k_ ≠ gb367) v369 t368) ∧ Asc (Kd.R Kd.string 9 w' w.heap.size (fun _ => True) v6 x6_1) ∧ Asc (w'.heap[gb366]? = some (.cells #[.int .i64 a0_0, .int .i64 a0_1, (.slice A0_2 l0_2.length c0_2)] 24 (0, 0))) ∧ Asc (w'.heap[gb367]? = some (.cells #[.int .i64 a1_0, .int .i64 a1_1, (.slice A1_2 l1_2.length c1_2), (.slice A1_3 l1_3.length c1_3), .int .i64 a1_4, .int .i64 a1_5] 35 (0, 0))) ∧ Asc (Below w.heap.size w w'))
 case atStart => exact ⟨(([] : List ByteArray)), (0), fr, H', ⟨Nat.le_refl _⟩, ⟨gN HO370⟩, ⟨kn⟩, ⟨gB BK366⟩, ⟨gB BK367⟩, ⟨bh HB⟩⟩
 case round =>
  clear H'
  try clear c3b0 z13_0 z13_1 z13_2 z13_3 z13_4 z13_5 z14_0 z14_1 z14_2 y13_0 y13_1 y13_2 y13_3 y13_4 y13_5 y14_0 y14_1 y14_2
  obtain ⟨x6_1, x7_1, rfl, HA, HK1, HO_5, HO_6, BK366, BK367, HB⟩ := hrel
  cases gk with
  | zero => exact absurd HA.out (by simp [F7.l0])
  | succ k1 =>
   have H := HA.out
   clear HA
   simp only [F7.l0] at H
   by_cases c16 : x7_1 < (l1_3.length : Int)
   ·
    rw [if_pos c16] at H
    have c16b0 : decide (x7_1 < (l1_3.length : Int)) = true := decide_eq_true c16
    clear c16
    have H' := am_ H
    clear H
    have hnb17 := NB367_366.out
    have hnc17 := NB366_367.out
    obtain ⟨z18_0, z18_1, z18_2, z18_3, z18_4, z18_5, y18_0, y18_1, y18_2, y18_3, y18_4, y18_5⟩ := bx6 BK367
    go_wp2
    repeat (go_quiet (fail); try go_wp2)
    go_loopg [8, 9] k1 (fun kq v8 v9 w' => ∃ (x8_2 : Bool) (x9_2 : Int), v8 = .bool x8_2 ∧ v9 = .int .i64 x9_2 ∧ Asc (F7.l1 kq t368 x6_1 x7_1 x8_2 x9_2 a1_0 a1_1 l1_2 l1_3 a1_4 a1_5 = some r) ∧ Asc (kq ≤ k1) ∧ Asc (Kd.N k37 37 w' w.heap.size (fun k_ => some k_ ≠ (u6 : Value).ownBlock ∧ k_ ≠ gb366 ∧ k_ ≠ gb367) v369 t368) ∧ Asc (Kd.R Kd.string 9 w' w.heap.size (fun _ => True) u6 x6_1) ∧ Asc (w'.heap[gb366]? = some (.cells #[.int .i64 a0_0, .int .i64 a0_1, (.slice A0_2 l0_2.length c0_2)] 24 (0, 0))) ∧ Asc (w'.heap[gb367]? = some (.cells #[.int .i64 a1_0, .int .i64 a1_1, (.slice A1_2 l1_2.length c1_2), (.slice A1_3 l1_3.length c1_3), .int .i64 a1_4, .int .i64 a1_5] 35 (0, 0))) ∧ Asc (Below w.heap.size w w'))
    case atStart => exact ⟨(false), (0), fr, fr, H', ⟨Nat.le_refl _⟩, ⟨hN HO_5⟩, ⟨hR HO_6⟩, ⟨gB BK366⟩, ⟨gB BK367⟩, ⟨bh HB⟩⟩
    case round =>
     clear H'
     try clear c16b0 z18_0 z18_1 z18_2 z18_3 z18_4 z18_5 y18_0 y18_1 y18_2 y18_3 y18_4 y18_5
     obtain ⟨x8_2, x9_2, rfl, rfl, HA, HK2, HO_5, HO_6, BK366, BK367, HB⟩ := hrel
     cases gk with
     | zero => exact absurd HA.out (by simp [F7.l1])
     | succ k2 =>
      have H := HA.out
      clear HA
      simp only [F7.l1] at H
      by_cases c19 : x9_2 < (t368.length : Int)
      ·
       rw [if_pos c19] at H
       have c19b0 : decide (x9_2 < (t368.length : Int)) = true := decide_eq_true c19
       clear c19
       by_cases c20 : x8_2 = true
       ·
        subst c20
        rw [if_pos rfl] at H
        have H' := am_ H
        clear H
        obtain ⟨Ao21, co21, eo21⟩ := Kd.N_slice HO_5.out
        subst eo21
        go_wp2
        repeat (go_quiet (fail); try go_wp2)
        go_roundg k2
        case measure => have := HK1.out; have := HK2.out; omega
        case rel => exact ⟨(true), (wrap64 (x9_2 + 1)), fr, fr, H', ⟨by have := HK1.out; have := HK2.out; omega⟩, ⟨hN HO_5⟩, ⟨hR HO_6⟩, ⟨gB BK366⟩, ⟨gB BK367⟩, ⟨bh HB⟩⟩
       replace c20 := Bool.eq_false_iff.mpr c20
       subst c20
       rw [if_neg (show ¬ (false = true) by decide)] at H
       revert H
       refine gi (fun c22b0 H => ?_)
       revert H
       refine gi (fun c23b0 H => ?_)
       revert H
       refine gi (fun c24b0 H => ?_)
       have H' := am_ H
       clear H
       obtain ⟨Ao25, co25, eo25⟩ := Kd.N_slice HO_5.out
       subst eo25
       have p371 : 0 ≤ (x9_2 : Int) := dt
       have q371 : x9_2 < (t368.length : Int) := dt
       obtain ⟨ad371, A371_3, c371_3, A371_4, c371_4, e371, hx371_0, hx371_1, hx371_2, hx371_3, hx371_4, hx371_5, hx371_6, hl371_3, hi371_3, hl371_4, hi371_4⟩ := at_T37 (Kd.N_reads' HO_5.out).2.2 x9_2 p371 q371
       cases e371
       obtain ⟨ce371, hce371, hMe371, hcc371⟩ := Kd.N_get HO_5.out z37 x9_2 p371 (by first | exact q371 | exact dt | (have e_ := (Kd.N_reads' HO_5.out).1; omega))
       obtain ⟨ua371_3, uc371_3, ua371_4, uc371_4, rfl, ul371_3, ge371_3, ul371_4, ge371_4⟩ := k37_openF hMe371
       have hv371_3 := hcc371 3 _ rfl
       rw [add_field _ _ 3 (by omega)] at hv371_3
       replace hv371_3 := Option.some.inj (hv371_3.symm.trans hx371_3)
       injection hv371_3 with hva_ hvn_ hvc_
       rw [hva_] at ge371_3
       rw [hvc_] at ul371_3
       have HL371_3 := am_ (show Kd.V k129 129 _ w.heap.size _ _ ((rd_T37 t368 x9_2).f1.f2) from Kd.V_mk ul371_3 ge371_3)
       clear hva_ hvn_ hvc_ ge371_3 ul371_3
       have hv371_4 := hcc371 4 _ rfl
       rw [add_field _ _ 4 (by omega)] at hv371_4
       replace hv371_4 := Option.some.inj (hv371_4.symm.trans hx371_4)
       injection hv371_4 with hva_ hvn_ hvc_
       rw [hva_] at ge371_4
       rw [hvc_] at ul371_4
       have HL371_4 := am_ (show Kd.V Kd.string 9 _ w.heap.size _ _ ((rd_T37 t368 x9_2).f1.f3) from Kd.V_mk ul371_4 ge371_4)
       clear hva_ hvn_ hvc_ ge371_4 ul371_4 hcc371 hce371
       have HR371_3 := am_ hi371_3
       have HC371_3 := am_ hl371_3
       clear hi371_3 hl371_3
       have HR371_4 := am_ hi371_4
       have HC371_4 := am_ hl371_4
       clear hi371_4 hl371_4
       replace p371 := eq_true p371
       replace q371 := eq_true q371
       have hnb26 := NB367_366.out
       have hnc26 := NB366_367.out
       obtain ⟨z27_0, z27_1, z27_2, z27_3, z27_4, z27_5, y27_0, y27_1, y27_2, y27_3, y27_4, y27_5⟩ := bx6 BK367
       have p372 : 0 ≤ (x7_1 : Int) := dt
       have q372 : x7_1 < (l1_3.length : Int) := dt
       obtain ⟨ad372, e372, hx372_0⟩ := Kd.at_string HR1_3.out x7_1 p372 q372
       cases e372
       replace hx372_0 := ce HB hx372_0
       replace p372 := eq_true p372
       replace q372 := eq_true q372
       go_wp2
       repeat (go_quiet (fail); try go_wp2)
       go_roundg k2
       case measure => have := HK1.out; have := HK2.out; omega
       case rel => exact ⟨((((rd_T37 t368 x9_2).f0).toList == (rdOf ByteArray.empty l1_3 x7_1).toList)), (wrap64 (x9_2 + 1)), fr, fr, H', ⟨by have := HK1.out; have := HK2.out; omega⟩, ⟨hN HO_5⟩, ⟨hR HO_6⟩, ⟨gB BK366⟩, ⟨gB BK367⟩, ⟨bh HB⟩⟩
      rw [if_neg c19] at H
      have c19b0 : decide (x9_2 < (t368.length : Int)) = false := decide_eq_false c19
      clear c19
      by_cases c28 : x8_2 = true
      ·
       subst c28
       rw [if_pos rfl] at H
       have H' := am_ H
       clear H
       obtain ⟨Ao29, co29, eo29⟩ := Kd.N_slice HO_5.out
       subst eo29
       go_wp2
       repeat (go_quiet (fail); try go_wp2)
       go_roundg k2
       case measure => have := HK1.out; have := HK2.out; omega
       case rel => exact ⟨(x6_1), (wrap64 (x7_1 + 1)), fr, H', ⟨by have := HK1.out; have := HK2.out; omega⟩, ⟨hN HO_5⟩, ⟨hR HO_6⟩, ⟨gB BK366⟩, ⟨gB BK367⟩, ⟨bh HB⟩⟩
      replace c28 := Bool.eq_false_iff.mpr c28
      subst c28
      rw [if_neg (show ¬ (false = true) by decide)] at H
      revert H
      refine gi (fun c30b0 H => ?_)
      revert H
      refine gi (fun c31b0 H => ?_)
      revert H
      refine gi' (fun c32 H => ?_)
      have LMc32 := am_ c32
      clear c32
      obtain ⟨y374, hy374⟩ : ∃ y_ : List ByteArray, y_ = (x6_1 ++ [rdOf ByteArray.empty l1_3 x7_1]) := ⟨_, rfl⟩
      replace H : (F7.l0 k2 t368 y374 (wrap64 (x7_1 + 1)) a1_0 a1_1 l1_2 l1_3 a1_4 a1_5) = some r := by first | (rw [hy374]; with_reducible exact H) | (have H := (Option.bind_some _ _).symm.trans H; first | (rw [hy374]; with_reducible exact H) | with_reducible exact H) | with_reducible exact H | (rw [hy374]; exact H) | exact H
      have Ny374 := am_ hy374
      clear hy374
      have H' := am_ H
      clear H
      obtain ⟨Ao33, co33, eo33⟩ := Kd.N_slice HO_5.out
      subst eo33
      have hnb34 := NB367_366.out
      have hnc34 := NB366_367.out
      obtain ⟨z35_0, z35_1, z35_2, z35_3, z35_4, z35_5, y35_0, y35_1, y35_2, y35_3, y35_4, y35_5⟩ := bx6 BK367
      have p373 : 0 ≤ (x7_1 : Int) := dt
      have q373 : x7_1 < (l1_3.length : Int) := dt
      obtain ⟨ad373, e373, hx373_0⟩ := Kd.at_string HR1_3.out x7_1 p373 q373
      cases e373
      replace hx373_0 := ce HB hx373_0
      replace p373 := eq_true p373
      replace q373 := eq_true q373
      go_wp2_with (first | ((with_reducible refine gate_builtin (b := .append) (xs := #[.tmp 50, .tmp 56]) rfl ?_); at_builtin; refine Kd.R_append Kd.string (w0 := w) w.heap.size rfl (.tmp 50) (.tmp 56) 31 9 (.string ⟨#[]⟩) 16 rfl Try.underlying31 info9 rfl (by decide) (by omega) u6 x6_1 (rdOf ByteArray.empty l1_3 x7_1) [.string (rdOf ByteArray.empty l1_3 x7_1)] (fun _ => True) (fun _ => False) rfl rfl ?aP (fun _ hk => hk.elim) ?aF ?aO ?aB ?aS ?aL ?_; (case aP => exact rfl); (case aB => exact (bh HB)); (case aF => exact (fun _ _ => trivial)); (case aO => exact (hR HO_6)); (case aS => exact (below_size (bh HB))); (case aL => have := LMc32.out; omega); intro v375 w36 ho hb hg hat; rw [← Ny374.out] at ho; replace HO_5 := am_ (Kd.N_afterv (ok := (fun k_ => k_ ≠ gb366 ∧ k_ ≠ gb367)) (gN HO_5) hg hat); replace BK366 := tBg BK366 hg (Kd.R_ne HO_6.out BK366.out (by decide)); replace BK367 := tBg BK367 hg (Kd.R_ne HO_6.out BK367.out (by decide)); replace HB := am_ hb; have HO376 := am_ (ho); clear HO_6 ho hb hg hat))
      (try simp only [Act.put, List.setIfInBounds_toArray, List.set_cons_zero, List.set_cons_succ])
      repeat (go_quiet (first | ((with_reducible refine gate_builtin (b := .append) (xs := #[.tmp 50, .tmp 56]) rfl ?_); at_builtin; refine Kd.R_append Kd.string (w0 := w) w.heap.size rfl (.tmp 50) (.tmp 56) 31 9 (.string ⟨#[]⟩) 16 rfl Try.underlying31 info9 rfl (by decide) (by omega) u6 x6_1 (rdOf ByteArray.empty l1_3 x7_1) [.string (rdOf ByteArray.empty l1_3 x7_1)] (fun _ => True) (fun _ => False) rfl rfl ?aP (fun _ hk => hk.elim) ?aF ?aO ?aB ?aS ?aL ?_; (case aP => exact rfl); (case aB => exact (bh HB)); (case aF => exact (fun _ _ => trivial)); (case aO => exact (hR HO_6)); (case aS => exact (below_size (bh HB))); (case aL => have := LMc32.out; omega); intro v375 w36 ho hb hg hat; rw [← Ny374.out] at ho; replace HO_5 := am_ (Kd.N_afterv (ok := (fun k_ => k_ ≠ gb366 ∧ k_ ≠ gb367)) (gN HO_5) hg hat); replace BK366 := tBg BK366 hg (Kd.R_ne HO_6.out BK366.out (by decide)); replace BK367 := tBg BK367 hg (Kd.R_ne HO_6.out BK367.out (by decide)); replace HB := am_ hb; have HO376 := am_ (ho); clear HO_6 ho hb hg hat)); try go_wp2_with (first | ((with_reducible refine gate_builtin (b := .append) (xs := #[.tmp 50, .tmp 56]) rfl ?_); at_builtin; refine Kd.R_append Kd.string (w0 := w) w.heap.size rfl (.tmp 50) (.tmp 56) 31 9 (.string ⟨#[]⟩) 16 rfl Try.underlying31 info9 rfl (by decide) (by omega) u6 x6_1 (rdOf ByteArray.empty l1_3 x7_1) [.string (rdOf ByteArray.empty l1_3 x7_1)] (fun _ => True) (fun _ => False) rfl rfl ?aP (fun _ hk => hk.elim) ?aF ?aO ?aB ?aS ?aL ?_; (case aP => exact rfl); (case aB => exact (bh HB)); (case aF => exact (fun _ _ => trivial)); (case aO => exact (hR HO_6)); (case aS => exact (below_size (bh HB))); (case aL => have := LMc32.out; omega); intro v375 w36 ho hb hg hat; rw [← Ny374.out] at ho; replace HO_5 := am_ (Kd.N_afterv (ok := (fun k_ => k_ ≠ gb366 ∧ k_ ≠ gb367)) (gN HO_5) hg hat); replace BK366 := tBg BK366 hg (Kd.R_ne HO_6.out BK366.out (by decide)); replace BK367 := tBg BK367 hg (Kd.R_ne HO_6.out BK367.out (by decide)); replace HB := am_ hb; have HO376 := am_ (ho); clear HO_6 ho hb hg hat)))
      go_roundg k2
      case measure => have := HK1.out; have := HK2.out; omega
      case rel => exact ⟨(y374), (wrap64 (x7_1 + 1)), fr, H', ⟨by have := HK1.out; have := HK2.out; omega⟩, ⟨gN HO_5⟩, ⟨hR HO376⟩, ⟨gB BK366⟩, ⟨gB BK367⟩, ⟨bh HB⟩⟩
   rw [if_neg c16] at H
   have c16b0 : decide (x7_1 < (l1_3.length : Int)) = false := decide_eq_false c16
   clear c16
   obtain rfl := Option.some.inj H
   have hnb37 := NB367_366.out
   have hnc37 := NB366_367.out
   obtain ⟨z38_0, z38_1, z38_2, z38_3, z38_4, z38_5, y38_0, y38_1, y38_2, y38_3, y38_4, y38_5⟩ := bx6 BK367
   go_wp2
   repeat (go_quiet (fail); try go_wp2)
   go_ret
   exact ⟨_, fe, hR HO_6, bh HB⟩

def Gj.f (a0_0 : Int) (a0_1 : Int) (l0_2 : List (S129)) (l0_3 : List ByteArray) (a0_4 : Int) (a0_5 : Int) (a1_0 : Int) (a1_1 : Int) (l1_2 : List (S129)) (l1_3 : List ByteArray) (a1_4 : Int) (a1_5 : Int) : Option (Bool) := if a0_1 = a1_1 then (some (decide (a0_0 < a1_0))) else (some (decide (a0_1 < a1_1)))
set_option maxHeartbeats 8000000 in
set_option maxRecDepth 100000 in
theorem Gj.calls (a0_0 : Int) (a0_1 : Int) (A0_2 : Option Addr) (c0_2 : Nat) (l0_2 : List (S129)) (A0_3 : Option Addr) (c0_3 : Nat) (l0_3 : List ByteArray) (a0_4 : Int) (a0_5 : Int) (a1_0 : Int) (a1_1 : Int) (A1_2 : Option Addr) (c1_2 : Nat) (l1_2 : List (S129)) (A1_3 : Option Addr) (c1_3 : Nat) (l1_3 : List ByteArray) (a1_4 : Int) (a1_5 : Int) (r : Bool) (w : World) (hr0_2 : Kd.C k129 w A0_2 l0_2.length l0_2) (hc0_2 : l0_2.length ≤ c0_2) (hr0_3 : Kd.C Kd.string w A0_3 l0_3.length l0_3) (hc0_3 : l0_3.length ≤ c0_3) (hr1_2 : Kd.C k129 w A1_2 l1_2.length l1_2) (hc1_2 : l1_2.length ≤ c1_2) (hr1_3 : Kd.C Kd.string w A1_3 l1_3.length l1_3) (hc1_3 : l1_3.length ≤ c1_3) (h : Gj.f a0_0 a0_1 l0_2 l0_3 a0_4 a0_5 a1_0 a1_1 l1_2 l1_3 a1_4 a1_5 = some r) :
  Calls Try.prog 61 #[.agg #[.int .i64 a0_0, .int .i64 a0_1, .slice A0_2 l0_2.length c0_2, .slice A0_3 l0_3.length c0_3, .int .i64 a0_4, .int .i64 a0_5], .agg #[.int .i64 a1_0, .int .i64 a1_1, .slice A1_2 l1_2.length c1_2, .slice A1_3 l1_3.length c1_3, .int .i64 a1_4, .int .i64 a1_5]] w fun e w' => e = .returned (.bool r) ∧ Below w.heap.size w w' := by
 have hu35 := Try.underlying35
 have HR0_2 := am_ hr0_2
 have HC0_2 := am_ hc0_2
 clear hr0_2 hc0_2
 have HR0_3 := am_ hr0_3
 have HC0_3 := am_ hc0_3
 clear hr0_3 hc0_3
 have HR1_2 := am_ hr1_2
 have HC1_2 := am_ hc1_2
 clear hr1_2 hc1_2
 have HR1_3 := am_ hr1_3
 have HC1_3 := am_ hc1_3
 clear hr1_3 hc1_3
 have HB := am_ (Below.refl w.heap.size w)
 have H : (if a0_1 = a1_1 then (some (decide (a0_0 < a1_0))) else (some (decide (a0_1 < a1_1)))) = some r := h
 clear h
 by_cases c3 : a0_1 = a1_1
 ·
  rw [if_pos c3] at H
  have c3b0 : (a0_1 == a1_1) = true := beq_iff_eq.mpr c3
  have c3b1 : (a0_1 != a1_1) = false := bne_eq_false_iff_eq.mpr c3
  clear c3
  obtain rfl := Option.some.inj H
  go_enter Try.func61, Try.ntmps61
  go_wp2_with (first | ((with_reducible refine gd_ 2 ?_); refine be_ 2 #[.int .i64 a0_0, .int .i64 a0_1, .slice A0_2 l0_2.length c0_2, .slice A0_3 l0_3.length c0_3, .int .i64 a0_4, .int .i64 a0_5] 35 ?_; intro gb377 hg w4 hbox hb; have BK377 := am_ hbox; have GW377 := tG HB hg; have GE377 := tG HB hg; replace HB := tHb HB hb; clear hb hbox hg) | ((with_reducible refine gd_ 3 ?_); refine be_ 3 #[.int .i64 a1_0, .int .i64 a1_1, .slice A1_2 l1_2.length c1_2, .slice A1_3 l1_3.length c1_3, .int .i64 a1_4, .int .i64 a1_5] 35 ?_; intro gb378 hg w5 hbox hb; have BK378 := am_ hbox; have GW378 := tG HB hg; have GE378 := tG HB hg; replace HB := tHb HB hb; have NB377_378 := tL BK377 hg; have NB378_377 := tR BK377 hg; replace BK377 := tBb BK377 hb; clear hb hbox hg; have hnb6 := NB377_378.out; have hnc6 := NB378_377.out; obtain ⟨z7_0, z7_1, z7_2, z7_3, z7_4, z7_5, y7_0, y7_1, y7_2, y7_3, y7_4, y7_5⟩ := bx6 BK377; obtain ⟨z8_0, z8_1, z8_2, z8_3, z8_4, z8_5, y8_0, y8_1, y8_2, y8_3, y8_4, y8_5⟩ := bx6 BK378))
  go_ret
  exact ⟨fe, bh HB⟩
 rw [if_neg c3] at H
 have c3b0 : (a0_1 == a1_1) = false := beq_eq_false_iff_ne.mpr c3
 have c3b1 : (a0_1 != a1_1) = true := bne_iff_ne.mpr c3
 obtain rfl := Option.some.inj H
 go_enter Try.func61, Try.ntmps61
 go_wp2_with (first | ((with_reducible refine gd_ 2 ?_); refine be_ 2 #[.int .i64 a0_0, .int .i64 a0_1, .slice A0_2 l0_2.length c0_2, .slice A0_3 l0_3.length c0_3, .int .i64 a0_4, .int .i64 a0_5] 35 ?_; intro gb377 hg w9 hbox hb; have BK377 := am_ hbox; have GW377 := tG HB hg; have GE377 := tG HB hg; replace HB := tHb HB hb; clear hb hbox hg) | ((with_reducible refine gd_ 3 ?_); refine be_ 3 #[.int .i64 a1_0, .int .i64 a1_1, .slice A1_2 l1_2.length c1_2, .slice A1_3 l1_3.length c1_3, .int .i64 a1_4, .int .i64 a1_5] 35 ?_; intro gb378 hg w10 hbox hb; have BK378 := am_ hbox; have GW378 := tG HB hg; have GE378 := tG HB hg; replace HB := tHb HB hb; have NB377_378 := tL BK377 hg; have NB378_377 := tR BK377 hg; replace BK377 := tBb BK377 hb; clear hb hbox hg; have hnb11 := NB377_378.out; have hnc11 := NB378_377.out; obtain ⟨z12_0, z12_1, z12_2, z12_3, z12_4, z12_5, y12_0, y12_1, y12_2, y12_3, y12_4, y12_5⟩ := bx6 BK377; obtain ⟨z13_0, z13_1, z13_2, z13_3, z13_4, z13_5, y13_0, y13_1, y13_2, y13_3, y13_4, y13_5⟩ := bx6 BK378))
 go_ret
 exact ⟨fe, bh HB⟩

def Fh.l0 : Nat → Int → Int → Int → Int → Int → List (S37) → Option (ByteArray × Int × Int × (List (S129)) × List ByteArray × Int × Int × Bool)
 | 0, _, _, _, _, _, _ => none
 | k + 1, x1, x2, x8, x380000, x380001, x380002 => if x8 < (x380002.length : Int) then (if 0 ≤ x8 then (if ((rd_T37 x380002 x8).f1.f0) = x1 then (if ((rd_T37 x380002 x8).f1.f1) = x2 then (some ((rd_T37 x380002 x8).f0, (rd_T37 x380002 x8).f1.f0, (rd_T37 x380002 x8).f1.f1, (rd_T37 x380002 x8).f1.f2, (rd_T37 x380002 x8).f1.f3, (rd_T37 x380002 x8).f1.f4.f0, (rd_T37 x380002 x8).f1.f4.f1, true)) else (Fh.l0 k x1 x2 (wrap64 (x8 + 1)) x380000 x380001 x380002)) else (Fh.l0 k x1 x2 (wrap64 (x8 + 1)) x380000 x380001 x380002)) else (none)) else (some ((⟨#[]⟩ : ByteArray), 0, 0, ([] : List (S129)), ([] : List ByteArray), 0, 0, false))
def Fh.f (k : Nat) (a0_0 : Int) (a0_1 : Int) (l0_2 : List (S37)) (a1 : Int) (a2 : Int) : Option (ByteArray × Int × Int × (List (S129)) × List ByteArray × Int × Int × Bool) := Fh.l0 k a1 a2 0 a0_0 a0_1 l0_2
theorem Fh.mono_l : ∀ k, (∀ y0 y1 y2 y3 y4 y5, LeO (Fh.l0 k y0 y1 y2 y3 y4 y5) (Fh.l0 (k + 1) y0 y1 y2 y3 y4 y5))
 | 0 => fun _ _ _ _ _ _ r h => by simp [Fh.l0] at h
 | k + 1 => by
  have ih0 := Fh.mono_l k
  ·
   intro y0 y1 y2 y3 y4 y5
   unfold Fh.l0
   repeat' first | (with_reducible first | exact ih0 _ _ _ _ _ _ | exact LeO.refl _ | exact LeO.none _ | refine LeO.ite ?_ ?_ | refine LeO.bind ?_ (fun _ => ?_)) | exact ih0 _ _ _ _ _ _ | refine LeO.ite ?_ ?_ | refine LeO.bind ?_ (fun _ => ?_)
theorem Fh.mono : ∀ a0 a1 a2 a3 a4 k, LeO (Fh.f k a0 a1 a2 a3 a4) (Fh.f (k + 1) a0 a1 a2 a3 a4) := by
 intro a0 a1 a2 a3 a4 k
 have ih0 := Fh.mono_l k
 unfold Fh.f
 repeat' first | (with_reducible first | exact ih0 _ _ _ _ _ _ | exact LeO.refl _ | exact LeO.none _ | refine LeO.ite ?_ ?_ | refine LeO.bind ?_ (fun _ => ?_)) | exact ih0 _ _ _ _ _ _ | refine LeO.ite ?_ ?_ | refine LeO.bind ?_ (fun _ => ?_)
set_option maxHeartbeats 8000000 in
set_option maxRecDepth 100000 in
theorem Fh.calls (k : Nat) (a0_0 : Int) (a0_1 : Int) (P0_2_ : Nat → Prop) (A0_2 : Option Addr) (c0_2 : Nat) (l0_2 : List (S37)) (a1 : Int) (a2 : Int) (r1 : ByteArray) (r2 : Int) (r3 : Int) (r4 : List (S129)) (r5 : List ByteArray) (r6 : Int) (r7 : Int) (r8 : Bool) (w : World) (hs0_2 : Kd.V k37 37 w w.heap.size (fun k_ => P0_2_ k_) (.slice A0_2 l0_2.length c0_2) l0_2) (h : Fh.f k a0_0 a0_1 l0_2 a1 a2 = some (r1, r2, r3, r4, r5, r6, r7, r8)) :
  Calls Try.prog 91 #[.agg #[.int .i64 a0_0, .int .i64 a0_1, .slice A0_2 l0_2.length c0_2], .int .i64 a1, .int .i64 a2] w fun e w' => ∃ v3_ v4_ : Value, e = .returned (.tuple #[.agg #[.string r1, .int .i64 r2, .int .i64 r3, v3_, v4_, .int .i64 r6, .int .i64 r7], .bool r8]) ∧ Kd.V k129 129 w' w.heap.size (fun k_ => (P0_2_ k_ ∨ w.heap.size ≤ k_)) v3_ r4 ∧ Kd.V Kd.string 9 w' w.heap.size (fun k_ => (P0_2_ k_ ∨ w.heap.size ≤ k_)) v4_ r5 ∧ Below w.heap.size w w' := by
 have hu24 := Try.underlying24
 have hu37 := Try.underlying37
 have HO0_2 := am_ (show Kd.V k37 37 w w.heap.size (fun k_ => (P0_2_ k_ ∨ w.heap.size ≤ k_)) (.slice A0_2 l0_2.length c0_2) l0_2 from Kd.V_mono hs0_2 (fun k_ hk => .inl hk))
 have HB := am_ (Below.refl w.heap.size w)
 have H : (Fh.l0 k a1 a2 0 a0_0 a0_1 l0_2) = some (r1, r2, r3, r4, r5, r6, r7, r8) := h
 clear h
 have H' := am_ H
 clear H
 go_enter Try.func91, Try.ntmps91
 go_wp2_with (first | ((with_reducible refine gd_ 3 ?_); refine be_ 3 #[.int .i64 a0_0, .int .i64 a0_1, .slice A0_2 l0_2.length c0_2] 24 ?_; intro gb379 hg w4 hbox hb; replace HO0_2 := tVe HO0_2 hg hb; have BK379 := am_ hbox; have GW379 := tG HB hg; have GE379 := tG HB hg; replace HB := tHb HB hb; clear hb hbox hg) | ((with_reducible refine gd_ 6 ?_); refine be_ 6 #[.string (⟨#[]⟩ : ByteArray), .int .i64 0, .int .i64 0, .slice none 0 0, .slice none 0 0, .int .i64 0, .int .i64 0] 37 ?_; intro gb380 hg w5 hbox hb; replace HO0_2 := tVe HO0_2 hg hb; have BK380 := am_ hbox; have GW380 := tG HB hg; have GE380 := tG HB hg; replace HB := tHb HB hb; have NB379_380 := tL BK379 hg; have NB380_379 := tR BK379 hg; replace BK379 := tBb BK379 hb; clear hb hbox hg))
 go_loopg [8] k (fun kq v8 w' => ∃ (x8_1 : Int) (x381000_1 : ByteArray) (x381001_1 : Int) (x381002_1 : Int) (x381005_1 : Int) (x381006_1 : Int), v8 = .int .i64 x8_1 ∧ Asc (Fh.l0 kq a1 a2 x8_1 a0_0 a0_1 l0_2 = some (r1, r2, r3, r4, r5, r6, r7, r8)) ∧ Asc (kq ≤ k) ∧ Asc (Kd.V k37 37 w' w.heap.size (fun k_ => (P0_2_ k_ ∨ w.heap.size ≤ k_) ∧ k_ ≠ gb379 ∧ k_ ≠ gb380) (.slice A0_2 l0_2.length c0_2) l0_2) ∧ Asc (w'.heap[gb379]? = some (.cells #[.int .i64 a0_0, .int .i64 a0_1, (.slice A0_2 l0_2.length c0_2)] 24 (0, 0))) ∧ Asc (w'.heap[gb380]? = some (.cells #[.string x381000_1, .int .i64 x381001_1, .int .i64 x381002_1, (.slice none 0 0), (.slice none 0 0), .int .i64 x381005_1, .int .i64 x381006_1] 37 (0, 0))) ∧ Asc (Below w.heap.size w w'))
 case atStart => exact ⟨(0), ((⟨#[]⟩ : ByteArray)), (0), (0), (0), (0), fr, H', ⟨Nat.le_refl _⟩, ⟨gV HO0_2⟩, ⟨gB BK379⟩, ⟨gB BK380⟩, ⟨bh HB⟩⟩
 case round =>
  clear H'
  obtain ⟨x8_1, x381000_1, x381001_1, x381002_1, x381005_1, x381006_1, rfl, HA, HK1, HO_380002, BK379, BK380, HB⟩ := hrel
  cases gk with
  | zero => exact absurd HA.out (by simp [Fh.l0])
  | succ k1 =>
   have H := HA.out
   clear HA
   simp only [Fh.l0] at H
   by_cases c6 : x8_1 < (l0_2.length : Int)
   ·
    rw [if_pos c6] at H
    have c6b0 : decide (x8_1 < (l0_2.length : Int)) = true := decide_eq_true c6
    clear c6
    revert H
    refine gi (fun c7b0 H => ?_)
    by_cases c8 : ((rd_T37 l0_2 x8_1).f1.f0) = a1
    ·
     rw [if_pos c8] at H
     have c8b0 : (((rd_T37 l0_2 x8_1).f1.f0) == a1) = true := beq_iff_eq.mpr c8
     have c8b1 : (((rd_T37 l0_2 x8_1).f1.f0) != a1) = false := bne_eq_false_iff_eq.mpr c8
     clear c8
     by_cases c9 : ((rd_T37 l0_2 x8_1).f1.f1) = a2
     ·
      rw [if_pos c9] at H
      have c9b0 : (((rd_T37 l0_2 x8_1).f1.f1) == a2) = true := beq_iff_eq.mpr c9
      have c9b1 : (((rd_T37 l0_2 x8_1).f1.f1) != a2) = false := bne_eq_false_iff_eq.mpr c9
      clear c9
      simp only [Option.some.injEq, Prod.mk.injEq] at H
      obtain ⟨rfl, rfl, rfl, rfl, rfl, rfl, rfl, rfl⟩ := H
      have hnb10 := NB379_380.out
      have hnc10 := NB380_379.out
      obtain ⟨z11_0, z11_1, z11_2, y11_0, y11_1, y11_2⟩ := bx3 BK379
      have p381 : 0 ≤ (x8_1 : Int) := dt
      have q381 : x8_1 < (l0_2.length : Int) := dt
      obtain ⟨ad381, A381_3, c381_3, A381_4, c381_4, e381, hx381_0, hx381_1, hx381_2, hx381_3, hx381_4, hx381_5, hx381_6, hl381_3, hi381_3, hl381_4, hi381_4⟩ := at_T37 (Kd.V_reads' HO_380002.out).2.2 x8_1 p381 q381
      cases e381
      obtain ⟨ce381, hce381, hMe381, hcc381⟩ := Kd.V_get HO_380002.out z37 x8_1 p381 (by first | exact q381 | exact dt | (have e_ := (Kd.V_reads' HO_380002.out).1; omega))
      obtain ⟨ua381_3, uc381_3, ua381_4, uc381_4, rfl, ul381_3, ge381_3, ul381_4, ge381_4⟩ := k37_openF hMe381
      have hv381_3 := hcc381 3 _ rfl
      rw [add_field _ _ 3 (by omega)] at hv381_3
      replace hv381_3 := Option.some.inj (hv381_3.symm.trans hx381_3)
      injection hv381_3 with hva_ hvn_ hvc_
      rw [hva_] at ge381_3
      rw [hvc_] at ul381_3
      have HL381_3 := am_ (show Kd.V k129 129 _ w.heap.size _ _ ((rd_T37 l0_2 x8_1).f1.f2) from Kd.V_mk ul381_3 ge381_3)
      clear hva_ hvn_ hvc_ ge381_3 ul381_3
      have hv381_4 := hcc381 4 _ rfl
      rw [add_field _ _ 4 (by omega)] at hv381_4
      replace hv381_4 := Option.some.inj (hv381_4.symm.trans hx381_4)
      injection hv381_4 with hva_ hvn_ hvc_
      rw [hva_] at ge381_4
      rw [hvc_] at ul381_4
      have HL381_4 := am_ (show Kd.V Kd.string 9 _ w.heap.size _ _ ((rd_T37 l0_2 x8_1).f1.f3) from Kd.V_mk ul381_4 ge381_4)
      clear hva_ hvn_ hvc_ ge381_4 ul381_4 hcc381 hce381
      have HR381_3 := am_ hi381_3
      have HC381_3 := am_ hl381_3
      clear hi381_3 hl381_3
      have HR381_4 := am_ hi381_4
      have HC381_4 := am_ hl381_4
      clear hi381_4 hl381_4
      replace p381 := eq_true p381
      replace q381 := eq_true q381
      have p382 : 0 ≤ (x8_1 : Int) := dt
      have q382 : x8_1 < (l0_2.length : Int) := dt
      obtain ⟨ad382, A382_3, c382_3, A382_4, c382_4, e382, hx382_0, hx382_1, hx382_2, hx382_3, hx382_4, hx382_5, hx382_6, hl382_3, hi382_3, hl382_4, hi382_4⟩ := at_T37 (Kd.V_reads' HO_380002.out).2.2 x8_1 p382 q382
      obtain rfl : ad381 = ad382 := (by injection e382)
      obtain ⟨ce382, hce382, hMe382, hcc382⟩ := Kd.V_get HO_380002.out z37 x8_1 p382 (by first | exact q382 | exact dt | (have e_ := (Kd.V_reads' HO_380002.out).1; omega))
      obtain ⟨ua382_3, uc382_3, ua382_4, uc382_4, rfl, ul382_3, ge382_3, ul382_4, ge382_4⟩ := k37_openF hMe382
      have hv382_3 := hcc382 3 _ rfl
      rw [add_field _ _ 3 (by omega)] at hv382_3
      replace hv382_3 := Option.some.inj (hv382_3.symm.trans hx382_3)
      injection hv382_3 with hva_ hvn_ hvc_
      rw [hva_] at ge382_3
      rw [hvc_] at ul382_3
      have HL382_3 := am_ (show Kd.V k129 129 _ w.heap.size _ _ ((rd_T37 l0_2 x8_1).f1.f2) from Kd.V_mk ul382_3 ge382_3)
      clear hva_ hvn_ hvc_ ge382_3 ul382_3
      have hv382_4 := hcc382 4 _ rfl
      rw [add_field _ _ 4 (by omega)] at hv382_4
      replace hv382_4 := Option.some.inj (hv382_4.symm.trans hx382_4)
      injection hv382_4 with hva_ hvn_ hvc_
      rw [hva_] at ge382_4
      rw [hvc_] at ul382_4
      have HL382_4 := am_ (show Kd.V Kd.string 9 _ w.heap.size _ _ ((rd_T37 l0_2 x8_1).f1.f3) from Kd.V_mk ul382_4 ge382_4)
      clear hva_ hvn_ hvc_ ge382_4 ul382_4 hcc382 hce382
      have HR382_3 := am_ hi382_3
      have HC382_3 := am_ hl382_3
      clear hi382_3 hl382_3
      have HR382_4 := am_ hi382_4
      have HC382_4 := am_ hl382_4
      clear hi382_4 hl382_4
      replace p382 := eq_true p382
      replace q382 := eq_true q382
      have ea_ := Option.some.inj (hx381_3.symm.trans hx382_3)
      injection ea_ with ea_ en_ ec_
      subst ea_
      subst ec_
      clear en_
      have ea_ := Option.some.inj (hx381_4.symm.trans hx382_4)
      injection ea_ with ea_ en_ ec_
      subst ea_
      subst ec_
      clear en_
      have p383 : 0 ≤ (x8_1 : Int) := dt
      have q383 : x8_1 < (l0_2.length : Int) := dt
      obtain ⟨ad383, A383_3, c383_3, A383_4, c383_4, e383, hx383_0, hx383_1, hx383_2, hx383_3, hx383_4, hx383_5, hx383_6, hl383_3, hi383_3, hl383_4, hi383_4⟩ := at_T37 (Kd.V_reads' HO_380002.out).2.2 x8_1 p383 q383
      obtain rfl : ad381 = ad383 := (by injection e383)
      obtain ⟨ce383, hce383, hMe383, hcc383⟩ := Kd.V_get HO_380002.out z37 x8_1 p383 (by first | exact q383 | exact dt | (have e_ := (Kd.V_reads' HO_380002.out).1; omega))
      obtain ⟨ua383_3, uc383_3, ua383_4, uc383_4, rfl, ul383_3, ge383_3, ul383_4, ge383_4⟩ := k37_openF hMe383
      have hv383_3 := hcc383 3 _ rfl
      rw [add_field _ _ 3 (by omega)] at hv383_3
      replace hv383_3 := Option.some.inj (hv383_3.symm.trans hx383_3)
      injection hv383_3 with hva_ hvn_ hvc_
      rw [hva_] at ge383_3
      rw [hvc_] at ul383_3
      have HL383_3 := am_ (show Kd.V k129 129 _ w.heap.size _ _ ((rd_T37 l0_2 x8_1).f1.f2) from Kd.V_mk ul383_3 ge383_3)
      clear hva_ hvn_ hvc_ ge383_3 ul383_3
      have hv383_4 := hcc383 4 _ rfl
      rw [add_field _ _ 4 (by omega)] at hv383_4
      replace hv383_4 := Option.some.inj (hv383_4.symm.trans hx383_4)
      injection hv383_4 with hva_ hvn_ hvc_
      rw [hva_] at ge383_4
      rw [hvc_] at ul383_4
      have HL383_4 := am_ (show Kd.V Kd.string 9 _ w.heap.size _ _ ((rd_T37 l0_2 x8_1).f1.f3) from Kd.V_mk ul383_4 ge383_4)
      clear hva_ hvn_ hvc_ ge383_4 ul383_4 hcc383 hce383
      have HR383_3 := am_ hi383_3
      have HC383_3 := am_ hl383_3
      clear hi383_3 hl383_3
      have HR383_4 := am_ hi383_4
      have HC383_4 := am_ hl383_4
      clear hi383_4 hl383_4
      replace p383 := eq_true p383
      replace q383 := eq_true q383
      have ea_ := Option.some.inj (hx381_3.symm.trans hx383_3)
      injection ea_ with ea_ en_ ec_
      subst ea_
      subst ec_
      clear en_
      have ea_ := Option.some.inj (hx381_4.symm.trans hx383_4)
      injection ea_ with ea_ en_ ec_
      subst ea_
      subst ec_
      clear en_
      obtain ⟨z12_0, z12_1, z12_2, z12_3, z12_4, z12_5, z12_6, y12_0, y12_1, y12_2, y12_3, y12_4, y12_5, y12_6⟩ := bx7 BK380
      go_wp2
      refine bodyPost_ret (results_ct rfl _ _ gb380 37 #[.string ((rd_T37 l0_2 x8_1).f0), .int .i64 ((rd_T37 l0_2 x8_1).f1.f0), .int .i64 ((rd_T37 l0_2 x8_1).f1.f1), .slice A381_3 ((rd_T37 l0_2 x8_1).f1.f2).length c381_3, .slice A381_4 ((rd_T37 l0_2 x8_1).f1.f3).length c381_4, .int .i64 ((rd_T37 l0_2 x8_1).f1.f4.f0), .int .i64 ((rd_T37 l0_2 x8_1).f1.f4.f1)] (0, 0) _ rfl (gP BK380 rfl) Try.underlying37 rfl (by kernel_rfl)) rfl ?_
      exact ⟨_, _, fe, gV HL383_3, gV HL383_4, bh HB⟩
     rw [if_neg c9] at H
     have c9b0 : (((rd_T37 l0_2 x8_1).f1.f1) == a2) = false := beq_eq_false_iff_ne.mpr c9
     have c9b1 : (((rd_T37 l0_2 x8_1).f1.f1) != a2) = true := bne_iff_ne.mpr c9
     have H' := am_ H
     clear H
     have hnb13 := NB379_380.out
     have hnc13 := NB380_379.out
     obtain ⟨z14_0, z14_1, z14_2, y14_0, y14_1, y14_2⟩ := bx3 BK379
     have p381 : 0 ≤ (x8_1 : Int) := dt
     have q381 : x8_1 < (l0_2.length : Int) := dt
     obtain ⟨ad381, A381_3, c381_3, A381_4, c381_4, e381, hx381_0, hx381_1, hx381_2, hx381_3, hx381_4, hx381_5, hx381_6, hl381_3, hi381_3, hl381_4, hi381_4⟩ := at_T37 (Kd.V_reads' HO_380002.out).2.2 x8_1 p381 q381
     cases e381
     obtain ⟨ce381, hce381, hMe381, hcc381⟩ := Kd.V_get HO_380002.out z37 x8_1 p381 (by first | exact q381 | exact dt | (have e_ := (Kd.V_reads' HO_380002.out).1; omega))
     obtain ⟨ua381_3, uc381_3, ua381_4, uc381_4, rfl, ul381_3, ge381_3, ul381_4, ge381_4⟩ := k37_openF hMe381
     have hv381_3 := hcc381 3 _ rfl
     rw [add_field _ _ 3 (by omega)] at hv381_3
     replace hv381_3 := Option.some.inj (hv381_3.symm.trans hx381_3)
     injection hv381_3 with hva_ hvn_ hvc_
     rw [hva_] at ge381_3
     rw [hvc_] at ul381_3
     have HL381_3 := am_ (show Kd.V k129 129 _ w.heap.size _ _ ((rd_T37 l0_2 x8_1).f1.f2) from Kd.V_mk ul381_3 ge381_3)
     clear hva_ hvn_ hvc_ ge381_3 ul381_3
     have hv381_4 := hcc381 4 _ rfl
     rw [add_field _ _ 4 (by omega)] at hv381_4
     replace hv381_4 := Option.some.inj (hv381_4.symm.trans hx381_4)
     injection hv381_4 with hva_ hvn_ hvc_
     rw [hva_] at ge381_4
     rw [hvc_] at ul381_4
     have HL381_4 := am_ (show Kd.V Kd.string 9 _ w.heap.size _ _ ((rd_T37 l0_2 x8_1).f1.f3) from Kd.V_mk ul381_4 ge381_4)
     clear hva_ hvn_ hvc_ ge381_4 ul381_4 hcc381 hce381
     have HR381_3 := am_ hi381_3
     have HC381_3 := am_ hl381_3
     clear hi381_3 hl381_3
     have HR381_4 := am_ hi381_4
     have HC381_4 := am_ hl381_4
     clear hi381_4 hl381_4
     replace p381 := eq_true p381
     replace q381 := eq_true q381
     have p382 : 0 ≤ (x8_1 : Int) := dt
     have q382 : x8_1 < (l0_2.length : Int) := dt
     obtain ⟨ad382, A382_3, c382_3, A382_4, c382_4, e382, hx382_0, hx382_1, hx382_2, hx382_3, hx382_4, hx382_5, hx382_6, hl382_3, hi382_3, hl382_4, hi382_4⟩ := at_T37 (Kd.V_reads' HO_380002.out).2.2 x8_1 p382 q382
     obtain rfl : ad381 = ad382 := (by injection e382)
     obtain ⟨ce382, hce382, hMe382, hcc382⟩ := Kd.V_get HO_380002.out z37 x8_1 p382 (by first | exact q382 | exact dt | (have e_ := (Kd.V_reads' HO_380002.out).1; omega))
     obtain ⟨ua382_3, uc382_3, ua382_4, uc382_4, rfl, ul382_3, ge382_3, ul382_4, ge382_4⟩ := k37_openF hMe382
     have hv382_3 := hcc382 3 _ rfl
     rw [add_field _ _ 3 (by omega)] at hv382_3
     replace hv382_3 := Option.some.inj (hv382_3.symm.trans hx382_3)
     injection hv382_3 with hva_ hvn_ hvc_
     rw [hva_] at ge382_3
     rw [hvc_] at ul382_3
     have HL382_3 := am_ (show Kd.V k129 129 _ w.heap.size _ _ ((rd_T37 l0_2 x8_1).f1.f2) from Kd.V_mk ul382_3 ge382_3)
     clear hva_ hvn_ hvc_ ge382_3 ul382_3
     have hv382_4 := hcc382 4 _ rfl
     rw [add_field _ _ 4 (by omega)] at hv382_4
     replace hv382_4 := Option.some.inj (hv382_4.symm.trans hx382_4)
     injection hv382_4 with hva_ hvn_ hvc_
     rw [hva_] at ge382_4
     rw [hvc_] at ul382_4
     have HL382_4 := am_ (show Kd.V Kd.string 9 _ w.heap.size _ _ ((rd_T37 l0_2 x8_1).f1.f3) from Kd.V_mk ul382_4 ge382_4)
     clear hva_ hvn_ hvc_ ge382_4 ul382_4 hcc382 hce382
     have HR382_3 := am_ hi382_3
     have HC382_3 := am_ hl382_3
     clear hi382_3 hl382_3
     have HR382_4 := am_ hi382_4
     have HC382_4 := am_ hl382_4
     clear hi382_4 hl382_4
     replace p382 := eq_true p382
     replace q382 := eq_true q382
     have ea_ := Option.some.inj (hx381_3.symm.trans hx382_3)
     injection ea_ with ea_ en_ ec_
     subst ea_
     subst ec_
     clear en_
     have ea_ := Option.some.inj (hx381_4.symm.trans hx382_4)
     injection ea_ with ea_ en_ ec_
     subst ea_
     subst ec_
     clear en_
     go_wp2
     go_roundg k1
     case measure => have := HK1.out; omega
     case rel => exact ⟨(wrap64 (x8_1 + 1)), (x381000_1), (x381001_1), (x381002_1), (x381005_1), (x381006_1), fr, H', kS HK1, ⟨hV HO_380002⟩, ⟨gB BK379⟩, ⟨gB BK380⟩, ⟨bh HB⟩⟩
    rw [if_neg c8] at H
    have c8b0 : (((rd_T37 l0_2 x8_1).f1.f0) == a1) = false := beq_eq_false_iff_ne.mpr c8
    have c8b1 : (((rd_T37 l0_2 x8_1).f1.f0) != a1) = true := bne_iff_ne.mpr c8
    have H' := am_ H
    clear H
    have hnb15 := NB379_380.out
    have hnc15 := NB380_379.out
    obtain ⟨z16_0, z16_1, z16_2, y16_0, y16_1, y16_2⟩ := bx3 BK379
    have p381 : 0 ≤ (x8_1 : Int) := dt
    have q381 : x8_1 < (l0_2.length : Int) := dt
    obtain ⟨ad381, A381_3, c381_3, A381_4, c381_4, e381, hx381_0, hx381_1, hx381_2, hx381_3, hx381_4, hx381_5, hx381_6, hl381_3, hi381_3, hl381_4, hi381_4⟩ := at_T37 (Kd.V_reads' HO_380002.out).2.2 x8_1 p381 q381
    cases e381
    obtain ⟨ce381, hce381, hMe381, hcc381⟩ := Kd.V_get HO_380002.out z37 x8_1 p381 (by first | exact q381 | exact dt | (have e_ := (Kd.V_reads' HO_380002.out).1; omega))
    obtain ⟨ua381_3, uc381_3, ua381_4, uc381_4, rfl, ul381_3, ge381_3, ul381_4, ge381_4⟩ := k37_openF hMe381
    have hv381_3 := hcc381 3 _ rfl
    rw [add_field _ _ 3 (by omega)] at hv381_3
    replace hv381_3 := Option.some.inj (hv381_3.symm.trans hx381_3)
    injection hv381_3 with hva_ hvn_ hvc_
    rw [hva_] at ge381_3
    rw [hvc_] at ul381_3
    have HL381_3 := am_ (show Kd.V k129 129 _ w.heap.size _ _ ((rd_T37 l0_2 x8_1).f1.f2) from Kd.V_mk ul381_3 ge381_3)
    clear hva_ hvn_ hvc_ ge381_3 ul381_3
    have hv381_4 := hcc381 4 _ rfl
    rw [add_field _ _ 4 (by omega)] at hv381_4
    replace hv381_4 := Option.some.inj (hv381_4.symm.trans hx381_4)
    injection hv381_4 with hva_ hvn_ hvc_
    rw [hva_] at ge381_4
    rw [hvc_] at ul381_4
    have HL381_4 := am_ (show Kd.V Kd.string 9 _ w.heap.size _ _ ((rd_T37 l0_2 x8_1).f1.f3) from Kd.V_mk ul381_4 ge381_4)
    clear hva_ hvn_ hvc_ ge381_4 ul381_4 hcc381 hce381
    have HR381_3 := am_ hi381_3
    have HC381_3 := am_ hl381_3
    clear hi381_3 hl381_3
    have HR381_4 := am_ hi381_4
    have HC381_4 := am_ hl381_4
    clear hi381_4 hl381_4
    replace p381 := eq_true p381
    replace q381 := eq_true q381
    go_wp2
    go_roundg k1
    case measure => have := HK1.out; omega
    case rel => exact ⟨(wrap64 (x8_1 + 1)), (x381000_1), (x381001_1), (x381002_1), (x381005_1), (x381006_1), fr, H', kS HK1, ⟨hV HO_380002⟩, ⟨gB BK379⟩, ⟨gB BK380⟩, ⟨bh HB⟩⟩
   rw [if_neg c6] at H
   have c6b0 : decide (x8_1 < (l0_2.length : Int)) = false := decide_eq_false c6
   clear c6
   simp only [Option.some.injEq, Prod.mk.injEq] at H
   obtain ⟨rfl, rfl, rfl, rfl, rfl, rfl, rfl, rfl⟩ := H
   have hnb17 := NB379_380.out
   have hnc17 := NB380_379.out
   obtain ⟨z18_0, z18_1, z18_2, y18_0, y18_1, y18_2⟩ := bx3 BK379
   obtain ⟨z19_0, z19_1, z19_2, z19_3, z19_4, z19_5, z19_6, y19_0, y19_1, y19_2, y19_3, y19_4, y19_5, y19_6⟩ := bx7 BK380
   go_wp2
   refine bodyPost_ret (results_ct rfl _ _ gb380 37 #[.string (⟨#[]⟩ : ByteArray), .int .i64 0, .int .i64 0, .slice none 0 0, .slice none 0 0, .int .i64 0, .int .i64 0] (0, 0) _ rfl (gP BK380 rfl) Try.underlying37 rfl (by kernel_rfl)) rfl ?_
   exact ⟨_, _, fe, Kd.V_nil _ _ _ _ _, Kd.V_nil _ _ _ _ _, bh HB⟩

end Go.Proofs.Ytcbfnmabckjijaa.PTuskStops
