-- written by a program of this session (pp.py), out of the kit's print and this session's contracts
import Derived.Test.YtcbfnmabckjijaaPTuskStopsx0
import Derived.Test.YtcbfnmabckjijaaPTuskStopsx3
import Derived.Test.YtcbfnmabckjijaaPTuskStopsx5
import Derived.Test.YtcbfnmabckjijaaPTuskStopsx6
import Derived.Test.YtcbfnmabckjijaaPTuskStopsx16
import Derived.Test.YtcbfnmabckjijaaVTuskStopsPh
namespace Go.Proofs.Ytcbfnmabckjijaa.PTuskStops
open Go.RowKit Go.Proofs.YtcbfnmabckjijaaW.PrintWords Go.Proofs.YtcbfnmabckjijaaW.PrintLast Go.Proofs.YtcbfnmabckjijaaW.PrintMore
set_option linter.unusedVariables false
set_option linter.unusedSimpArgs false

mutual
def F3.j0 : Nat → Int → Bool → Bool → Int → Int → List (S37) → Option (Bool)
 | 0, _, _, _, _, _, _ => none
 | k + 1, x1, x5, x29, x503000, x503001, x503002 => if x29 = true then (some x5) else ((F1.f k x503000 x503001 x503002 x1).bind fun bt506 => ((F1.f k x503000 x503001 x503002 bt506.2).bind fun bt510 => (F3.l0 k bt506.2 bt510.1 bt510.2 (wrap64 (bt506.2 + 1)) x503000 x503001 x503002)))
def F3.l0 : Nat → Int → List (S37) → Int → Int → Int → Int → List (S37) → Option (Bool)
 | 0, _, _, _, _, _, _, _ => none
 | k + 1, x9, x10, x11, x12, x503000, x503001, x503002 => (Fa.f k x503000 x503001 x503002).bind fun t514 => (if x12 ≤ t514 then (F3.j2 k x9 x10 x11 x12 (decide (x12 ≥ 1)) x503000 x503001 x503002) else (F3.j2 k x9 x10 x11 x12 false x503000 x503001 x503002))
def F3.j2 : Nat → Int → List (S37) → Int → Int → Bool → Int → Int → List (S37) → Option (Bool)
 | 0, _, _, _, _, _, _, _, _ => none
 | k + 1, x9, x10, x11, x12, x52, x503000, x503001, x503002 => if x52 = true then ((Fn.f k x503000 x503001 x503002 x12).bind fun bt515 => (if bt515.2.2.2.2.2.2.2 = 0 then (some false) else (F3.l0 k x9 x10 x11 (wrap64 (x12 + 1)) x503000 x503001 x503002))) else (if (x10.length : Int) = 0 then (some (x11 == x9)) else (some false))
end
def F3.f (k : Nat) (a0_0 : Int) (a0_1 : Int) (l0_2 : List (S37)) (a1 : Int) : Option (Bool) := (Gd.f k).bind fun t503 => ((Fu.f k a0_0 a0_1 l0_2).bind fun t504 => ((Fi.f k a0_0 a0_1 l0_2).bind fun t505 => (if t503 = true then (if t504 = true then (F3.j0 k a1 t503 (!t505) a0_0 a0_1 l0_2) else (F3.j0 k a1 t503 true a0_0 a0_1 l0_2)) else (F3.j0 k a1 t503 true a0_0 a0_1 l0_2))))
set_option maxHeartbeats 8000000 in
set_option maxRecDepth 100000 in
theorem F3.calls (k : Nat) (a0_0 : Int) (a0_1 : Int) (A0_2 : Option Addr) (c0_2 : Nat) (l0_2 : List (S37)) (a1 : Int) (r : Bool) (hr_ : r = true) (w : World) (hr0_2 : Kd.C k37 w A0_2 l0_2.length l0_2) (hc0_2 : l0_2.length ≤ c0_2) (h : F3.f k a0_0 a0_1 l0_2 a1 = some r) :
  Calls Try.prog 3 #[.agg #[.int .i64 a0_0, .int .i64 a0_1, .slice A0_2 l0_2.length c0_2], .int .i64 a1] w fun e w' => e = .returned (.bool r) ∧ Below w.heap.size w w' := by
 have HRT_ := am_ hr_
 clear hr_
 have hu24 := Try.underlying24
 have hu37 := Try.underlying37
 have HR0_2 := am_ hr0_2
 have HC0_2 := am_ hc0_2
 clear hr0_2 hc0_2
 have HB := am_ (Below.refl w.heap.size w)
 have H : ((Gd.f k).bind fun t503 => ((Fu.f k a0_0 a0_1 l0_2).bind fun t504 => ((Fi.f k a0_0 a0_1 l0_2).bind fun t505 => (if t503 = true then (if t504 = true then (F3.j0 k a1 t503 (!t505) a0_0 a0_1 l0_2) else (F3.j0 k a1 t503 true a0_0 a0_1 l0_2)) else (F3.j0 k a1 t503 true a0_0 a0_1 l0_2))))) = some r := h
 clear h
 replace H := Option.bind_eq_some_iff.mp H
 obtain ⟨t503, A30, H⟩ := H
 replace H : ((Fu.f k a0_0 a0_1 l0_2).bind fun t504 => ((Fi.f k a0_0 a0_1 l0_2).bind fun t505 => (if t503 = true then (if t504 = true then (F3.j0 k a1 t503 (!t505) a0_0 a0_1 l0_2) else (F3.j0 k a1 t503 true a0_0 a0_1 l0_2)) else (F3.j0 k a1 t503 true a0_0 a0_1 l0_2)))) = some r := H
 have A3 := am_ A30
 clear A30
 replace H := Option.bind_eq_some_iff.mp H
 obtain ⟨t504, A40, H⟩ := H
 replace H : ((Fi.f k a0_0 a0_1 l0_2).bind fun t505 => (if t503 = true then (if t504 = true then (F3.j0 k a1 t503 (!t505) a0_0 a0_1 l0_2) else (F3.j0 k a1 t503 true a0_0 a0_1 l0_2)) else (F3.j0 k a1 t503 true a0_0 a0_1 l0_2))) = some r := H
 have A4 := am_ A40
 clear A40
 replace H := Option.bind_eq_some_iff.mp H
 obtain ⟨t505, A50, H⟩ := H
 replace H : (if t503 = true then (if t504 = true then (F3.j0 k a1 t503 (!t505) a0_0 a0_1 l0_2) else (F3.j0 k a1 t503 true a0_0 a0_1 l0_2)) else (F3.j0 k a1 t503 true a0_0 a0_1 l0_2)) = some r := H
 have A5 := am_ A50
 clear A50
 have HC6 := am_ H
 clear H
 go_enter Try.func3, Try.ntmps3
 go_upto_region 4 with (first | ((with_reducible refine gd_ 2 ?_); refine be_ 2 #[.int .i64 a0_0, .int .i64 a0_1, .slice A0_2 l0_2.length c0_2] 24 ?_; intro gb502 hg w7 hbox hb; have BK502 := am_ hbox; have GW502 := tG HB hg; have GE502 := tG HB hg; replace HB := tHb HB hb; clear hb hbox hg) | ((with_reducible refine gate_callee (f := 10) rfl ?_); refine gl_ (some 15) Try.func10 #[] ?_; (with_reducible refine (Gd.calls k  t503 _ A3.out).mono ?_); rintro e w8 ⟨rfl, hb⟩; refine ⟨_, rfl, ?_⟩; replace BK502 := tBb BK502 hb; replace HB := tHb HB hb; (try clear hb); obtain ⟨z9_0, z9_1, z9_2, y9_0, y9_1, y9_2⟩ := bx3 BK502) | ((with_reducible refine gate_callee (f := 11) rfl ?_); refine gl_ (some 17) Try.func11 #[.agg #[.int .i64 a0_0, .int .i64 a0_1, .slice A0_2 l0_2.length c0_2]] ?_; (with_reducible refine (Fu.calls k a0_0 a0_1 _ _ l0_2 t504 _ ?side1 ?side2 A4.out).mono ?_); (case side1 => exact gCB HR0_2 HB); (case side2 => exact HC0_2.out); rintro e w10 ⟨rfl, hb⟩; refine ⟨_, rfl, ?_⟩; replace BK502 := tBb BK502 hb; replace HB := tHb HB hb; (try clear hb); obtain ⟨z11_0, z11_1, z11_2, y11_0, y11_1, y11_2⟩ := bx3 BK502) | ((with_reducible refine gate_callee (f := 12) rfl ?_); refine gl_ (some 19) Try.func12 #[.agg #[.int .i64 a0_0, .int .i64 a0_1, .slice A0_2 l0_2.length c0_2]] ?_; (with_reducible refine (Fi.calls k a0_0 a0_1 _ _ l0_2 t505 _ ?side1 ?side2 A5.out).mono ?_); (case side1 => exact gCB HR0_2 HB); (case side2 => exact HC0_2.out); rintro e w12 ⟨rfl, hb⟩; refine ⟨_, rfl, ?_⟩; replace BK502 := tBb BK502 hb; replace HB := tHb HB hb; (try clear hb)))
 (try simp only [Act.put, List.setIfInBounds_toArray, List.set_cons_zero, List.set_cons_succ])
 go_cut [29] (fun v29 wc => ∃ (kq : Nat) (x29_5 : Bool), v29 = .bool x29_5 ∧ Asc (F3.j0 kq a1 t503 x29_5 a0_0 a0_1 l0_2 = some r) ∧ Asc (kq ≤ k) ∧ Asc (wc.heap[gb502]? = some (.cells #[.int .i64 a0_0, .int .i64 a0_1, (.slice A0_2 l0_2.length c0_2)] 24 (0, 0))) ∧ Asc (Below w.heap.size w wc))
 case first =>
  have H := HC6.out
  clear HC6
  by_cases c13 : t503 = true
  ·
   subst c13
   rw [if_pos rfl] at H
   by_cases c14 : t504 = true
   ·
    subst c14
    rw [if_pos rfl] at H
    have H' := am_ H
    clear H
    go_wp2
    go_meet
    case rel => exact ⟨_, (!t505), fr, H', ⟨by first | omega | exact Nat.le_refl _⟩, ⟨gB BK502⟩, ⟨bh HB⟩⟩
   replace c14 := Bool.eq_false_iff.mpr c14
   subst c14
   rw [if_neg (show ¬ (false = true) by decide)] at H
   have H' := am_ H
   clear H
   go_wp2
   go_meet
   case rel => exact ⟨_, (true), fr, H', ⟨by first | omega | exact Nat.le_refl _⟩, ⟨gB BK502⟩, ⟨bh HB⟩⟩
  replace c13 := Bool.eq_false_iff.mpr c13
  subst c13
  rw [if_neg (show ¬ (false = true) by decide)] at H
  have H' := am_ H
  clear H
  go_wp2
  go_meet
  case rel => exact ⟨_, (true), fr, H', ⟨by first | omega | exact Nat.le_refl _⟩, ⟨gB BK502⟩, ⟨bh HB⟩⟩
 case rest =>
  clear HC6
  try clear z11_0 z11_1 z11_2 z9_0 z9_1 z9_2 y11_0 y11_1 y11_2 y9_0 y9_1 y9_2
  obtain ⟨kq, x29_5, rfl, HA, HJ5, BK502, HB⟩ := hcut
  cases kq with
  | zero => exact absurd HA.out (by simp [F3.j0])
  | succ kj5 =>
   have H := HA.out
   clear HA
   simp only [F3.j0] at H
   by_cases c15 : x29_5 = true
   ·
    subst c15
    rw [if_pos rfl] at H
    obtain rfl := Option.some.inj H
    go_wp2
    go_ret
    exact ⟨fe, bh HB⟩
   replace c15 := Bool.eq_false_iff.mpr c15
   subst c15
   rw [if_neg (show ¬ (false = true) by decide)] at H
   replace H := Option.bind_eq_some_iff.mp H
   obtain ⟨⟨t506, t509⟩, A160, H⟩ := H
   replace H : ((F1.f kj5 a0_0 a0_1 l0_2 t509).bind fun bt510 => (F3.l0 kj5 t509 bt510.1 bt510.2 (wrap64 (t509 + 1)) a0_0 a0_1 l0_2)) = some r := H
   have A16 := am_ A160
   clear A160
   replace H := Option.bind_eq_some_iff.mp H
   obtain ⟨⟨t510, t513⟩, A170, H⟩ := H
   replace H : (F3.l0 kj5 t509 t510 t513 (wrap64 (t509 + 1)) a0_0 a0_1 l0_2) = some r := H
   have A17 := am_ A170
   clear A170
   have H' := am_ H
   clear H
   obtain ⟨z18_0, z18_1, z18_2, y18_0, y18_1, y18_2⟩ := bx3 BK502
   go_wp2_with (first | ((with_reducible refine gate_callee (f := 13) rfl ?_); refine gl_ (some 34) Try.func13 #[.agg #[.int .i64 a0_0, .int .i64 a0_1, .slice A0_2 l0_2.length c0_2], .int .i64 a1] ?_; (with_reducible refine (F1.calls kj5 a0_0 a0_1 (fun k_ => k_ < w.heap.size) _ _ l0_2 a1 t506 t509 _ ?side1 A16.out).mono ?_); (case side1 => exact Kd.V_mk HC0_2.out (Kd.F_below (Kd.C_F k37_heap HR0_2.out) (bh HB))); rintro e w19 ⟨v507, rfl, ho0, hb⟩; refine ⟨_, rfl, ?_⟩; have HO508 := am_ (Kd.N_lower (Kd.N_mono (ok' := fun k_ => k_ ≠ gb502) ho0 (fun k_ hk_ => Or.elim hk_ (fun hs_ => fun e_ => Nat.not_le.2 hs_ (by rw [e_]; exact GW502.out)) (fun hn_ => (gFr BK502 k_ hn_)))) (below_size (bh HB))); replace BK502 := tBb BK502 hb; replace HB := tHb HB hb; (try clear hb); (try clear ho0); obtain ⟨z20_0, z20_1, z20_2, y20_0, y20_1, y20_2⟩ := bx3 BK502) | ((with_reducible refine gate_callee (f := 13) rfl ?_); refine gl_ (some 40) Try.func13 #[.agg #[.int .i64 a0_0, .int .i64 a0_1, .slice A0_2 l0_2.length c0_2], .int .i64 t509] ?_; (with_reducible refine (F1.calls kj5 a0_0 a0_1 (fun k_ => k_ < w.heap.size) _ _ l0_2 t509 t510 t513 _ ?side1 A17.out).mono ?_); (case side1 => exact Kd.V_mk HC0_2.out (Kd.F_below (Kd.C_F k37_heap HR0_2.out) (bh HB))); rintro e w21 ⟨v511, rfl, ho0, hb⟩; refine ⟨_, rfl, ?_⟩; have HO512 := am_ (Kd.N_lower (Kd.N_mono (ok' := fun k_ => some k_ ≠ (v507 : Value).ownBlock ∧ k_ ≠ gb502) ho0 (fun k_ hk_ => ⟨Or.elim hk_ (fun hs_ => fun e_ => Nat.not_le.2 hs_ (Kd.N_base HO508.out k_ e_.symm)) (fun hn_ => (Kd.fresh' (Kd.N_lt (hN HO508)) k_ hn_)), Or.elim hk_ (fun hs_ => fun e_ => Nat.not_le.2 hs_ (by rw [e_]; exact GW502.out)) (fun hn_ => (gFr BK502 k_ hn_))⟩)) (below_size (bh HB))); replace HO508 := am_ (Kd.N_elder' (hN HO508) (Kd.N_base ho0) hb); replace BK502 := tBb BK502 hb; replace HB := tHb HB hb; (try clear hb); (try clear ho0)))
   go_loopg [12] kj5 (fun kq v12 w' => ∃ (x12_2 : Int), v12 = .int .i64 x12_2 ∧ Asc (F3.l0 kq t509 t510 t513 x12_2 a0_0 a0_1 l0_2 = some r) ∧ Asc (kq ≤ kj5) ∧ Asc (Kd.N k37 37 w' w.heap.size (fun k_ => k_ ≠ gb502) v511 t510) ∧ Asc (w'.heap[gb502]? = some (.cells #[.int .i64 a0_0, .int .i64 a0_1, (.slice A0_2 l0_2.length c0_2)] 24 (0, 0))) ∧ Asc (Below w.heap.size w w'))
   case atStart => exact ⟨(wrap64 (t509 + 1)), fr, H', ⟨Nat.le_refl _⟩, ⟨gN HO512⟩, ⟨gB BK502⟩, ⟨bh HB⟩⟩
   case round =>
    clear H'
    try clear c15 z18_0 z18_1 z18_2 z20_0 z20_1 z20_2 y18_0 y18_1 y18_2 y20_0 y20_1 y20_2
    obtain ⟨x12_2, rfl, HA, HK2, HO_10, BK502, HB⟩ := hrel
    cases gk with
    | zero => exact absurd HA.out (by simp [F3.l0])
    | succ k2 =>
     have H := HA.out
     clear HA
     simp only [F3.l0] at H
     have HC22 := am_ H
     clear H
     go_upto_region 9 with (fail)
     go_cut [52] (fun v52 wc => ∃ (kq : Nat) (x52_21 : Bool), v52 = .bool x52_21 ∧ Asc (F3.j2 kq t509 t510 t513 x12_2 x52_21 a0_0 a0_1 l0_2 = some r) ∧ Asc (kq ≤ k2) ∧ Asc (Kd.N k37 37 wc w.heap.size (fun k_ => k_ ≠ gb502) v511 t510) ∧ Asc (wc.heap[gb502]? = some (.cells #[.int .i64 a0_0, .int .i64 a0_1, (.slice A0_2 l0_2.length c0_2)] 24 (0, 0))) ∧ Asc (Below w.heap.size w wc))
     case first =>
      have H := HC22.out
      clear HC22
      replace H := Option.bind_eq_some_iff.mp H
      obtain ⟨t514, A230, H⟩ := H
      replace H : (if x12_2 ≤ t514 then (F3.j2 k2 t509 t510 t513 x12_2 (decide (x12_2 ≥ 1)) a0_0 a0_1 l0_2) else (F3.j2 k2 t509 t510 t513 x12_2 false a0_0 a0_1 l0_2)) = some r := H
      have A23 := am_ A230
      clear A230
      by_cases c24 : x12_2 ≤ t514
      ·
       rw [if_pos c24] at H
       have c24b0 : decide (x12_2 ≤ t514) = true := decide_eq_true c24
       clear c24
       (first | rw [c24b0] | (simp only [i64_w, i32_w]; rw [c24b0]) | skip)
       have H' := am_ H
       clear H
       obtain ⟨z25_0, z25_1, z25_2, y25_0, y25_1, y25_2⟩ := bx3 BK502
       go_wp2_with (first | ((with_reducible refine gate_callee (f := 14) rfl ?_); refine gl_ (some 47) Try.func14 #[.agg #[.int .i64 a0_0, .int .i64 a0_1, .slice A0_2 l0_2.length c0_2]] ?_; (with_reducible refine (Fa.calls k2 a0_0 a0_1 _ _ l0_2 t514 _ ?side1 ?side2 A23.out).mono ?_); (case side1 => exact gCB HR0_2 HB); (case side2 => exact HC0_2.out); rintro e w26 ⟨rfl, hb⟩; refine ⟨_, rfl, ?_⟩; replace HO_10 := tNb HO_10 hb; replace BK502 := tBb BK502 hb; replace HB := tHb HB hb; (try clear hb)))
       go_meet
       case rel => exact ⟨_, (decide (x12_2 ≥ 1)), fr, H', ⟨by have := HJ5.out; have := HK2.out; first | omega | exact Nat.le_refl _⟩, ⟨hN HO_10⟩, ⟨gB BK502⟩, ⟨bh HB⟩⟩
      rw [if_neg c24] at H
      have c24b0 : decide (x12_2 ≤ t514) = false := decide_eq_false c24
      clear c24
      (first | rw [c24b0] | (simp only [i64_w, i32_w]; rw [c24b0]) | skip)
      have H' := am_ H
      clear H
      obtain ⟨z27_0, z27_1, z27_2, y27_0, y27_1, y27_2⟩ := bx3 BK502
      go_wp2_with (first | ((with_reducible refine gate_callee (f := 14) rfl ?_); refine gl_ (some 47) Try.func14 #[.agg #[.int .i64 a0_0, .int .i64 a0_1, .slice A0_2 l0_2.length c0_2]] ?_; (with_reducible refine (Fa.calls k2 a0_0 a0_1 _ _ l0_2 t514 _ ?side1 ?side2 A23.out).mono ?_); (case side1 => exact gCB HR0_2 HB); (case side2 => exact HC0_2.out); rintro e w28 ⟨rfl, hb⟩; refine ⟨_, rfl, ?_⟩; replace HO_10 := tNb HO_10 hb; replace BK502 := tBb BK502 hb; replace HB := tHb HB hb; (try clear hb)))
      go_meet
      case rel => exact ⟨_, (false), fr, H', ⟨by have := HJ5.out; have := HK2.out; first | omega | exact Nat.le_refl _⟩, ⟨hN HO_10⟩, ⟨gB BK502⟩, ⟨bh HB⟩⟩
     case rest =>
      clear HC22
      obtain ⟨kq, x52_21, rfl, HA, HJ21, HO_10, BK502, HB⟩ := hcut
      cases kq with
      | zero => exact absurd HA.out (by simp [F3.j2])
      | succ kj21 =>
       have H := HA.out
       clear HA
       simp only [F3.j2] at H
       by_cases c29 : x52_21 = true
       ·
        subst c29
        rw [if_pos rfl] at H
        replace H := Option.bind_eq_some_iff.mp H
        obtain ⟨⟨t515, t516, t517, t518, t521, t524, t525, t526⟩, A300, H⟩ := H
        replace H : (if t526 = 0 then (some false) else (F3.l0 kj21 t509 t510 t513 (wrap64 (x12_2 + 1)) a0_0 a0_1 l0_2)) = some r := H
        have A30 := am_ A300
        clear A300
        by_cases c31 : t526 = 0
        ·
         rw [if_pos c31] at H
         exact absurd ((Option.some.inj H).trans HRT_.out) (by decide)
        rw [if_neg c31] at H
        have c31b0 : (t526 == 0) = false := beq_eq_false_iff_ne.mpr c31
        have c31b1 : (t526 != 0) = true := bne_iff_ne.mpr c31
        have H' := am_ H
        clear H
        obtain ⟨z39_0, z39_1, z39_2, y39_0, y39_1, y39_2⟩ := bx3 BK502
        go_wp2_with (first | ((with_reducible refine gate_callee (f := 15) rfl ?_); refine gl_ (some 58) Try.func15 #[.agg #[.int .i64 a0_0, .int .i64 a0_1, .slice A0_2 l0_2.length c0_2], .int .i64 x12_2] ?_; (with_reducible refine (Fn.calls kj21 a0_0 a0_1 (fun k_ => k_ < w.heap.size) _ _ l0_2 x12_2 t515 t516 t517 t518 t521 t524 t525 t526 _ ?side1 A30.out).mono ?_); (case side1 => exact Kd.V_mk HC0_2.out (Kd.F_below (Kd.C_F k37_heap HR0_2.out) (bh HB))); rintro e w40 ⟨v519, v522, rfl, ho0, ho1, hb⟩; refine ⟨_, rfl, ?_⟩; have HO520 := am_ (Kd.V_lower (Kd.V_mono (ok' := fun k_ => some k_ ≠ (v511 : Value).ownBlock ∧ k_ ≠ gb502) ho0 (fun k_ hk_ => ⟨Or.elim hk_ (fun hs_ => fun e_ => Nat.not_le.2 hs_ (Kd.N_base HO_10.out k_ e_.symm)) (fun hn_ => (Kd.fresh' (Kd.N_lt (hN HO_10)) k_ hn_)), Or.elim hk_ (fun hs_ => fun e_ => Nat.not_le.2 hs_ (by rw [e_]; exact GW502.out)) (fun hn_ => (gFr BK502 k_ hn_))⟩)) (below_size (bh HB))); have HO523 := am_ (Kd.V_lower (Kd.V_mono (ok' := fun k_ => some k_ ≠ (v511 : Value).ownBlock ∧ k_ ≠ gb502) ho1 (fun k_ hk_ => ⟨Or.elim hk_ (fun hs_ => fun e_ => Nat.not_le.2 hs_ (Kd.N_base HO_10.out k_ e_.symm)) (fun hn_ => (Kd.fresh' (Kd.N_lt (hN HO_10)) k_ hn_)), Or.elim hk_ (fun hs_ => fun e_ => Nat.not_le.2 hs_ (by rw [e_]; exact GW502.out)) (fun hn_ => (gFr BK502 k_ hn_))⟩)) (below_size (bh HB))); replace HO_10 := tNb HO_10 hb; replace BK502 := tBb BK502 hb; replace HB := tHb HB hb; (try clear hb); (try clear ho0); (try clear ho1)) | ((with_reducible refine gd_ 13 ?_); refine be_ 13 #[.string (⟨#[]⟩ : ByteArray), .int .i64 0, .int .i64 0, .slice none 0 0, .slice none 0 0, .int .i64 0, .int .i64 0] 37 ?_; intro gb527 hg w41 hbox hb; replace HO_10 := tNe HO_10 hg hb; replace HO520 := tVe HO520 hg hb; replace HO523 := tVe HO523 hg hb; have BK527 := am_ hbox; have GW527 := tG HB hg; have GE527 := tG HB hg; replace HB := tHb HB hb; have NB502_527 := tL BK502 hg; have NB527_502 := tR BK502 hg; replace BK502 := tBb BK502 hb; clear hb hbox hg; have hnb42 := NB527_502.out; have hnc42 := NB502_527.out; obtain ⟨z43_0, z43_1, z43_2, z43_3, z43_4, z43_5, z43_6, y43_0, y43_1, y43_2, y43_3, y43_4, y43_5, y43_6⟩ := bx7 BK527; obtain ⟨Ao44, co44, eo44⟩ := Kd.V_slice HO520.out; subst eo44; obtain ⟨Ao45, co45, eo45⟩ := Kd.V_slice HO523.out; subst eo45))
        go_roundg kj21
        case measure => have := HJ5.out; have := HK2.out; have := HJ21.out; omega
        case rel => exact ⟨(wrap64 (x12_2 + 1)), fr, H', ⟨by have := HJ5.out; have := HK2.out; have := HJ21.out; omega⟩, ⟨gN HO_10⟩, ⟨gB BK502⟩, ⟨bh HB⟩⟩
       replace c29 := Bool.eq_false_iff.mpr c29
       subst c29
       rw [if_neg (show ¬ (false = true) by decide)] at H
       by_cases c46 : (t510.length : Int) = 0
       ·
        rw [if_pos c46] at H
        have c46b0 : ((t510.length : Int) == 0) = true := beq_iff_eq.mpr c46
        have c46b1 : ((t510.length : Int) != 0) = false := bne_eq_false_iff_eq.mpr c46
        clear c46
        obtain rfl := Option.some.inj H
        obtain ⟨Ao47, co47, eo47⟩ := Kd.N_slice HO_10.out
        subst eo47
        go_wp2
        go_ret
        exact ⟨fe, bh HB⟩
       rw [if_neg c46] at H
       exact absurd ((Option.some.inj H).trans HRT_.out) (by decide)

end Go.Proofs.Ytcbfnmabckjijaa.PTuskStops
