-- written by a program of this session (pp.py), out of the kit's print and this session's contracts
import Derived.Test.YtcbfnmabckjijaaPTuskStopsx0
import Derived.Test.YtcbfnmabckjijaaPTuskStopsx2
import Derived.Test.YtcbfnmabckjijaaPTuskStopsx3
import Derived.Test.YtcbfnmabckjijaaVTuskStopsPh
namespace Go.Proofs.Ytcbfnmabckjijaa.PTuskStops
open Go.RowKit Go.Proofs.YtcbfnmabckjijaaW.PrintWords Go.Proofs.YtcbfnmabckjijaaW.PrintLast Go.Proofs.YtcbfnmabckjijaaW.PrintMore
set_option linter.unusedVariables false
set_option linter.unusedSimpArgs false

mutual
def F8.j0 : Nat → Int → Bool → Int → Int → List (S37) → Option (Int × Int)
 | 0, _, _, _, _, _ => none
 | k + 1, x1, x23, x142000, x142001, x142002 => if x23 = true then (some (0, 1)) else ((Fm.f k x142000 x142001 x142002 (wrap64 (3 * x1))).bind fun t143 => ((Fs.f x142000).bind fun t146 => (if (t143.length : Int) < t146 then (some (0, 12)) else ((Fs.f x142000).bind fun t147 => (if 0 ≤ t147 then (if t147 ≤ (t143.length : Int) then ((some (t143.take (t147 : Int).toNat : List (S37))).bind fun y148 => (F8.l0 k ([] : List (S111)) y148 (y148.length : Int) 0 x142000 x142001 x142002)) else (none)) else (none))))))
def F8.l0 : Nat → List (S111) → List (S37) → Int → Int → Int → Int → List (S37) → Option (Int × Int)
 | 0, _, _, _, _, _, _, _ => none
 | k + 1, x7, x38, x39, x40, x142000, x142001, x142002 => if x40 < x39 then (if 0 ≤ x40 then (if x40 < (x38.length : Int) then (if x7.length < 5864062014805 then (F8.l0 k (x7 ++ [(⟨(rd_T37 x38 x40).f1.f0, (⟨(rd_T37 x38 x40).f1.f4.f0, (rd_T37 x38 x40).f1.f4.f1⟩ : S33)⟩ : S111)]) x38 x39 (wrap64 (x40 + 1)) x142000 x142001 x142002) else (none)) else (none)) else (none)) else ((Gg.f x7).bind fun bt158 => (if bt158.2.2 = 0 then ((Gc.f bt158.1 bt158.2.1 x142000).bind fun t162 => (some (t162, 0))) else (some (0, bt158.2.2))))
end
def F8.f (k : Nat) (a0_0 : Int) (a0_1 : Int) (l0_2 : List (S37)) (a1 : Int) : Option (Int × Int) := if a1 < 1 then (F8.j0 k a1 true a0_0 a0_1 l0_2) else (if a1 > 1048576 then (F8.j0 k a1 true a0_0 a0_1 l0_2) else ((Fr.f a0_0).bind fun t142 => (F8.j0 k a1 (!t142) a0_0 a0_1 l0_2)))
set_option maxHeartbeats 8000000 in
set_option maxRecDepth 100000 in
theorem F8.calls (k : Nat) (a0_0 : Int) (a0_1 : Int) (A0_2 : Option Addr) (c0_2 : Nat) (l0_2 : List (S37)) (a1 : Int) (r1 : Int) (r2 : Int) (w : World) (hr0_2 : Kd.C k37 w A0_2 l0_2.length l0_2) (hc0_2 : l0_2.length ≤ c0_2) (h : F8.f k a0_0 a0_1 l0_2 a1 = some (r1, r2)) :
  Calls Try.prog 66 #[.agg #[.int .i64 a0_0, .int .i64 a0_1, .slice A0_2 l0_2.length c0_2], .int .i64 a1] w fun e w' => e = .returned (.tuple #[.int .i64 r1, .int .i64 r2]) ∧ Below w.heap.size w w' := by
 have hu24 := Try.underlying24
 have hu37 := Try.underlying37
 have hu33 := Try.underlying33
 have hu111 := Try.underlying111
 have HR0_2 := am_ hr0_2
 have HC0_2 := am_ hc0_2
 clear hr0_2 hc0_2
 have HB := am_ (Below.refl w.heap.size w)
 have H : (if a1 < 1 then (F8.j0 k a1 true a0_0 a0_1 l0_2) else (if a1 > 1048576 then (F8.j0 k a1 true a0_0 a0_1 l0_2) else ((Fr.f a0_0).bind fun t142 => (F8.j0 k a1 (!t142) a0_0 a0_1 l0_2)))) = some (r1, r2) := h
 clear h
 have HC3 := am_ H
 clear H
 go_enter Try.func66, Try.ntmps66
 go_upto_region 1 with (first | ((with_reducible refine gd_ 2 ?_); refine be_ 2 #[.int .i64 a0_0, .int .i64 a0_1, .slice A0_2 l0_2.length c0_2] 24 ?_; intro gb141 hg w4 hbox hb; have BK141 := am_ hbox; have GW141 := tG HB hg; have GE141 := tG HB hg; replace HB := tHb HB hb; clear hb hbox hg))
 (try simp only [Act.put, List.setIfInBounds_toArray, List.set_cons_zero, List.set_cons_succ])
 go_cut [23] (fun v23 wc => ∃ (kq : Nat) (x23_2 : Bool), v23 = .bool x23_2 ∧ Asc (F8.j0 kq a1 x23_2 a0_0 a0_1 l0_2 = some (r1, r2)) ∧ Asc (kq ≤ k) ∧ Asc (wc.heap[gb141]? = some (.cells #[.int .i64 a0_0, .int .i64 a0_1, (.slice A0_2 l0_2.length c0_2)] 24 (0, 0))) ∧ Asc (Below w.heap.size w wc))
 case first =>
  have H := HC3.out
  clear HC3
  by_cases c5 : a1 < 1
  ·
   rw [if_pos c5] at H
   have c5b0 : decide (a1 < 1) = true := decide_eq_true c5
   clear c5
   (first | rw [c5b0] | (simp only [i64_w, i32_w]; rw [c5b0]) | skip)
   have H' := am_ H
   clear H
   go_wp2
   go_meet
   case rel => exact ⟨_, (true), fr, H', ⟨by first | omega | exact Nat.le_refl _⟩, ⟨gB BK141⟩, ⟨bh HB⟩⟩
  rw [if_neg c5] at H
  have c5b0 : decide (a1 < 1) = false := decide_eq_false c5
  clear c5
  (first | rw [c5b0] | (simp only [i64_w, i32_w]; rw [c5b0]) | skip)
  by_cases c6 : a1 > 1048576
  ·
   rw [if_pos c6] at H
   have c6b0 : decide (1048576 < a1) = true := decide_eq_true c6
   clear c6
   have H' := am_ H
   clear H
   go_wp2
   go_meet
   case rel => exact ⟨_, (true), fr, H', ⟨by first | omega | exact Nat.le_refl _⟩, ⟨gB BK141⟩, ⟨bh HB⟩⟩
  rw [if_neg c6] at H
  have c6b0 : decide (1048576 < a1) = false := decide_eq_false c6
  clear c6
  replace H := Option.bind_eq_some_iff.mp H
  obtain ⟨t142, A70, H⟩ := H
  replace H : (F8.j0 k a1 (!t142) a0_0 a0_1 l0_2) = some (r1, r2) := H
  have A7 := am_ A70
  clear A70
  have H' := am_ H
  clear H
  obtain ⟨z8_0, z8_1, z8_2, y8_0, y8_1, y8_2⟩ := bx3 BK141
  go_wp2_with (first | (go_at_call 71; (with_reducible refine (Fr.calls a0_0 t142 _ A7.out).mono ?_); rintro e w' ⟨rfl, ⟨nd, rfl⟩⟩))
  go_meet
  case rel => exact ⟨_, (!t142), fr, H', ⟨by first | omega | exact Nat.le_refl _⟩, ⟨gB BK141⟩, ⟨bh HB⟩⟩
 case rest =>
  clear HC3
  obtain ⟨kq, x23_2, rfl, HA, HJ2, BK141, HB⟩ := hcut
  cases kq with
  | zero => exact absurd HA.out (by simp [F8.j0])
  | succ kj2 =>
   have H := HA.out
   clear HA
   simp only [F8.j0] at H
   by_cases c9 : x23_2 = true
   ·
    subst c9
    rw [if_pos rfl] at H
    simp only [Option.some.injEq, Prod.mk.injEq] at H
    obtain ⟨rfl, rfl⟩ := H
    go_wp2
    go_ret2
    exact ⟨fe, bh HB⟩
   replace c9 := Bool.eq_false_iff.mpr c9
   subst c9
   rw [if_neg (show ¬ (false = true) by decide)] at H
   replace H := Option.bind_eq_some_iff.mp H
   obtain ⟨t143, A100, H⟩ := H
   replace H : ((Fs.f a0_0).bind fun t146 => (if (t143.length : Int) < t146 then (some (0, 12)) else ((Fs.f a0_0).bind fun t147 => (if 0 ≤ t147 then (if t147 ≤ (t143.length : Int) then ((some (t143.take (t147 : Int).toNat : List (S37))).bind fun y148 => (F8.l0 kj2 ([] : List (S111)) y148 (y148.length : Int) 0 a0_0 a0_1 l0_2)) else (none)) else (none))))) = some (r1, r2) := H
   have A10 := am_ A100
   clear A100
   replace H := Option.bind_eq_some_iff.mp H
   obtain ⟨t146, A110, H⟩ := H
   replace H : (if (t143.length : Int) < t146 then (some (0, 12)) else ((Fs.f a0_0).bind fun t147 => (if 0 ≤ t147 then (if t147 ≤ (t143.length : Int) then ((some (t143.take (t147 : Int).toNat : List (S37))).bind fun y148 => (F8.l0 kj2 ([] : List (S111)) y148 (y148.length : Int) 0 a0_0 a0_1 l0_2)) else (none)) else (none)))) = some (r1, r2) := H
   have A11 := am_ A110
   clear A110
   by_cases c12 : (t143.length : Int) < t146
   ·
    rw [if_pos c12] at H
    have c12b0 : decide ((t143.length : Int) < t146) = true := decide_eq_true c12
    clear c12
    simp only [Option.some.injEq, Prod.mk.injEq] at H
    obtain ⟨rfl, rfl⟩ := H
    obtain ⟨z13_0, z13_1, z13_2, y13_0, y13_1, y13_2⟩ := bx3 BK141
    go_wp2_with (first | ((with_reducible refine gate_callee (f := 70) rfl ?_); refine gl_ (some 27) Try.func70 #[.agg #[.int .i64 a0_0, .int .i64 a0_1, .slice A0_2 l0_2.length c0_2], .int .i64 (wrap64 (3 * a1))] ?_; (with_reducible refine (Fm.calls kj2 a0_0 a0_1 (fun k_ => k_ < w.heap.size) _ _ l0_2 (wrap64 (3 * a1)) t143 _ ?side1 A10.out).mono ?_); (case side1 => exact Kd.V_mk HC0_2.out (Kd.F_below (Kd.C_F k37_heap HR0_2.out) (bh HB))); rintro e w14 ⟨v144, rfl, ho0, hb⟩; refine ⟨_, rfl, ?_⟩; have HO145 := am_ (Kd.N_lower (Kd.N_mono (ok' := fun k_ => k_ ≠ gb141) ho0 (fun k_ hk_ => Or.elim hk_ (fun hs_ => fun e_ => Nat.not_le.2 hs_ (by rw [e_]; exact GW141.out)) (fun hn_ => (gFr BK141 k_ hn_)))) (below_size (bh HB))); replace BK141 := tBb BK141 hb; replace HB := tHb HB hb; (try clear hb); (try clear ho0); obtain ⟨Ao15, co15, eo15⟩ := Kd.N_slice HO145.out; subst eo15; obtain ⟨z16_0, z16_1, z16_2, y16_0, y16_1, y16_2⟩ := bx3 BK141) | ((with_reducible refine gate_callee (f := 38) rfl ?_); refine gl_ (some 32) Try.func38 #[.int .i64 a0_0] ?_; (with_reducible refine (Fs.calls a0_0 t146 _ A11.out).mono ?_); rintro e w' ⟨rfl, ⟨nd, rfl⟩⟩; refine ⟨_, rfl, ?_⟩))
    go_ret2
    exact ⟨fe, bh HB⟩
   rw [if_neg c12] at H
   have c12b0 : decide ((t143.length : Int) < t146) = false := decide_eq_false c12
   clear c12
   replace H := Option.bind_eq_some_iff.mp H
   obtain ⟨t147, A170, H⟩ := H
   replace H : (if 0 ≤ t147 then (if t147 ≤ (t143.length : Int) then ((some (t143.take (t147 : Int).toNat : List (S37))).bind fun y148 => (F8.l0 kj2 ([] : List (S111)) y148 (y148.length : Int) 0 a0_0 a0_1 l0_2)) else (none)) else (none)) = some (r1, r2) := H
   have A17 := am_ A170
   clear A170
   by_cases c18 : 0 ≤ t147
   ·
    rw [if_pos c18] at H
    have c18b0 := eq_true c18
    have c18b1 : decide (0 ≤ t147) = true := decide_eq_true c18
    clear c18
    revert H
    refine gi' (fun c19 H => ?_)
    have c19b0 := eq_true c19
    have c19b1 : decide (t147 ≤ (t143.length : Int)) = true := decide_eq_true c19
    clear c19
    obtain ⟨y148, hy148⟩ : ∃ y_ : List (S37), y_ = (t143.take (t147 : Int).toNat) := ⟨_, rfl⟩
    replace H : (F8.l0 kj2 ([] : List (S111)) y148 (y148.length : Int) 0 a0_0 a0_1 l0_2) = some (r1, r2) := by first | (rw [hy148]; with_reducible exact H) | (have H := (Option.bind_some _ _).symm.trans H; first | (rw [hy148]; with_reducible exact H) | with_reducible exact H) | with_reducible exact H | (rw [hy148]; exact H) | exact H
    have Ny148 := am_ hy148
    clear hy148
    have H' := am_ H
    clear H
    obtain ⟨z20_0, z20_1, z20_2, y20_0, y20_1, y20_2⟩ := bx3 BK141
    go_wp2_with (first | ((with_reducible refine gate_callee (f := 70) rfl ?_); refine gl_ (some 27) Try.func70 #[.agg #[.int .i64 a0_0, .int .i64 a0_1, .slice A0_2 l0_2.length c0_2], .int .i64 (wrap64 (3 * a1))] ?_; (with_reducible refine (Fm.calls kj2 a0_0 a0_1 (fun k_ => k_ < w.heap.size) _ _ l0_2 (wrap64 (3 * a1)) t143 _ ?side1 A10.out).mono ?_); (case side1 => exact Kd.V_mk HC0_2.out (Kd.F_below (Kd.C_F k37_heap HR0_2.out) (bh HB))); rintro e w21 ⟨v144, rfl, ho0, hb⟩; refine ⟨_, rfl, ?_⟩; have HO145 := am_ (Kd.N_lower (Kd.N_mono (ok' := fun k_ => k_ ≠ gb141) ho0 (fun k_ hk_ => Or.elim hk_ (fun hs_ => fun e_ => Nat.not_le.2 hs_ (by rw [e_]; exact GW141.out)) (fun hn_ => (gFr BK141 k_ hn_)))) (below_size (bh HB))); replace BK141 := tBb BK141 hb; replace HB := tHb HB hb; (try clear hb); (try clear ho0); obtain ⟨Ao22, co22, eo22⟩ := Kd.N_slice HO145.out; subst eo22; obtain ⟨z23_0, z23_1, z23_2, y23_0, y23_1, y23_2⟩ := bx3 BK141) | ((with_reducible refine gate_callee (f := 38) rfl ?_); refine gl_ (some 32) Try.func38 #[.int .i64 a0_0] ?_; (with_reducible refine (Fs.calls a0_0 t146 _ A11.out).mono ?_); rintro e w' ⟨rfl, ⟨nd, rfl⟩⟩; refine ⟨_, rfl, ?_⟩) | ((with_reducible refine gate_callee (f := 38) rfl ?_); refine gl_ (some 37) Try.func38 #[.int .i64 a0_0] ?_; (with_reducible refine (Fs.calls a0_0 t147 _ A17.out).mono ?_); rintro e w' ⟨rfl, ⟨nd, rfl⟩⟩; refine ⟨_, rfl, ?_⟩; have q24 : (t147 : Int) ≤ ((t143.length : Int) : Int) := dt; obtain ⟨i024, hi024, _, hsz24, _⟩ := info_parts info37; have hroom24 : t143.length ≤ co22 := (Kd.N_reads' HO145.out).2.1; have hC24 : Kd.F k37 _ _ Ao22 t143.length t143 := (Kd.V_at (base := w.heap.size) (Kd.N_V HO145.out)).2.2; have hcut24 := cut_to (P := Try.prog) 22 37 .i64 Try.underlying22 hi024 Ao22 t143.length co22 t147 (dt) q24 hroom24; have hr24 := Kd.F_take (m := (t147 : Int).toNat) hC24 (by omega); have hy24 : y148.length = (t147 : Int).toNat := (by rw [Ny148.out, List.length_take]; omega); rw [← Ny148.out] at hr24; rw [← hy24] at hcut24; have HO152 := am_ (show Kd.V k37 37 _ w.heap.size _ (.slice Ao22 y148.length co22) y148 from Kd.V_mk (by omega) hr24); have HC152 := am_ (show y148.length ≤ co22 from by omega); clear hr24 hC24 hroom24 hi024 hsz24; have KY24 := am_ hy24; clear hy24; replace q24 := eq_true q24))
    go_loopg [7, 40] kj2 (fun kq v7 v40 w' => ∃ (x7_2 : List (S111)) (x40_2 : Int), v40 = .int .i64 x40_2 ∧ Asc (F8.l0 kq x7_2 y148 (y148.length : Int) x40_2 a0_0 a0_1 l0_2 = some (r1, r2)) ∧ Asc (kq ≤ kj2) ∧ Asc (Kd.R k111 111 w' w.heap.size (fun _ => True) v7 x7_2) ∧ Asc (Kd.V k37 37 w' w.heap.size (fun k_ => some k_ ≠ (v7 : Value).ownBlock ∧ k_ ≠ gb141) (.slice Ao22 y148.length co22) y148) ∧ Asc (w'.heap[gb141]? = some (.cells #[.int .i64 a0_0, .int .i64 a0_1, (.slice A0_2 l0_2.length c0_2)] 24 (0, 0))) ∧ Asc (Below w.heap.size w w'))
    case atStart => exact ⟨(([] : List (S111))), (0), fr, H', ⟨Nat.le_refl _⟩, ⟨kn⟩, ⟨gV HO152⟩, ⟨gB BK141⟩, ⟨bh HB⟩⟩
    case round =>
     clear H'
     try clear c9 c12b0 c18b0 c18b1 c19b0 c19b1 q24 z20_0 z20_1 z20_2 z23_0 z23_1 z23_2 y20_0 y20_1 y20_2 y23_0 y23_1 y23_2 q24
     obtain ⟨x7_2, x40_2, rfl, HA, HK2, HO_7, HO_38, BK141, HB⟩ := hrel
     cases gk with
     | zero => exact absurd HA.out (by simp [F8.l0])
     | succ k2 =>
      have H := HA.out
      clear HA
      simp only [F8.l0] at H
      by_cases c25 : x40_2 < (y148.length : Int)
      ·
       rw [if_pos c25] at H
       have c25b0 : decide (x40_2 < (y148.length : Int)) = true := decide_eq_true c25
       clear c25
       revert H
       refine gi (fun c26b0 H => ?_)
       revert H
       refine gi (fun c27b0 H => ?_)
       revert H
       refine gi' (fun c28 H => ?_)
       have LMc28 := am_ c28
       clear c28
       obtain ⟨y155, hy155⟩ : ∃ y_ : List (S111), y_ = (x7_2 ++ [(⟨(rd_T37 y148 x40_2).f1.f0, (⟨(rd_T37 y148 x40_2).f1.f4.f0, (rd_T37 y148 x40_2).f1.f4.f1⟩ : S33)⟩ : S111)]) := ⟨_, rfl⟩
       replace H : (F8.l0 k2 y155 y148 (y148.length : Int) (wrap64 (x40_2 + 1)) a0_0 a0_1 l0_2) = some (r1, r2) := by first | (rw [hy155]; with_reducible exact H) | (have H := (Option.bind_some _ _).symm.trans H; first | (rw [hy155]; with_reducible exact H) | with_reducible exact H) | with_reducible exact H | (rw [hy155]; exact H) | exact H
       have Ny155 := am_ hy155
       clear hy155
       have H' := am_ H
       clear H
       have p153 : 0 ≤ (x40_2 : Int) := dt
       have q153 : x40_2 < (y148.length : Int) := dt
       obtain ⟨ad153, A153_3, c153_3, A153_4, c153_4, e153, hx153_0, hx153_1, hx153_2, hx153_3, hx153_4, hx153_5, hx153_6, hl153_3, hi153_3, hl153_4, hi153_4⟩ := at_T37 (Kd.V_reads' HO_38.out).2.2 x40_2 p153 q153
       cases e153
       obtain ⟨ce153, hce153, hMe153, hcc153⟩ := Kd.V_get HO_38.out z37 x40_2 p153 (by first | exact q153 | exact dt | (have e_ := (Kd.V_reads' HO_38.out).1; omega))
       obtain ⟨ua153_3, uc153_3, ua153_4, uc153_4, rfl, ul153_3, ge153_3, ul153_4, ge153_4⟩ := k37_openF hMe153
       have hv153_3 := hcc153 3 _ rfl
       rw [add_field _ _ 3 (by omega)] at hv153_3
       replace hv153_3 := Option.some.inj (hv153_3.symm.trans hx153_3)
       injection hv153_3 with hva_ hvn_ hvc_
       rw [hva_] at ge153_3
       rw [hvc_] at ul153_3
       have HL153_3 := am_ (show Kd.V k129 129 _ w.heap.size _ _ ((rd_T37 y148 x40_2).f1.f2) from Kd.V_mk ul153_3 ge153_3)
       clear hva_ hvn_ hvc_ ge153_3 ul153_3
       have hv153_4 := hcc153 4 _ rfl
       rw [add_field _ _ 4 (by omega)] at hv153_4
       replace hv153_4 := Option.some.inj (hv153_4.symm.trans hx153_4)
       injection hv153_4 with hva_ hvn_ hvc_
       rw [hva_] at ge153_4
       rw [hvc_] at ul153_4
       have HL153_4 := am_ (show Kd.V Kd.string 9 _ w.heap.size _ _ ((rd_T37 y148 x40_2).f1.f3) from Kd.V_mk ul153_4 ge153_4)
       clear hva_ hvn_ hvc_ ge153_4 ul153_4 hcc153 hce153
       have HR153_3 := am_ hi153_3
       have HC153_3 := am_ hl153_3
       clear hi153_3 hl153_3
       have HR153_4 := am_ hi153_4
       have HC153_4 := am_ hl153_4
       clear hi153_4 hl153_4
       replace p153 := eq_true p153
       replace q153 := eq_true q153
       go_wp2_with (first | ((with_reducible refine gd_ 9 ?_); refine be_ 9 #[.string (⟨#[]⟩ : ByteArray), .int .i64 0, .int .i64 0, .slice none 0 0, .slice none 0 0, .int .i64 0, .int .i64 0] 37 ?_; intro gb154 hg w29 hbox hb; replace HO_7 := tRb HO_7 hb; replace HO_38 := tVe HO_38 hg hb; replace HL153_3 := tVe HL153_3 hg hb; replace HL153_4 := tVe HL153_4 hg hb; replace HR153_3 := tCb HR153_3 hb; replace HR153_4 := tCb HR153_4 hb; have BK154 := am_ hbox; have GW154 := tG HB hg; have GE154 := tG HB hg; replace HB := tHb HB hb; have NB141_154 := tL BK141 hg; have NB154_141 := tR BK141 hg; replace BK141 := tBb BK141 hb; clear hb hbox hg; have hnb30 := NB154_141.out; have hnc30 := NB141_154.out; obtain ⟨z31_0, z31_1, z31_2, z31_3, z31_4, z31_5, z31_6, y31_0, y31_1, y31_2, y31_3, y31_4, y31_5, y31_6⟩ := bx7 BK154) | ((with_reducible refine gate_builtin (b := .append) (xs := #[.tmp 44, .tmp 52]) rfl ?_); at_builtin; refine Kd.R_append k111 (w0 := w) w.heap.size rfl (.tmp 44) (.tmp 52) 116 111 (.agg #[(.int .i64 0), (.int .i64 0), (.int .i64 0)]) 24 rfl Try.underlying116 info111 rfl (by decide) (by omega) u7 x7_2 (⟨(rd_T37 y148 x40_2).f1.f0, (⟨(rd_T37 y148 x40_2).f1.f4.f0, (rd_T37 y148 x40_2).f1.f4.f1⟩ : S33)⟩ : S111) [.int .i64 ((rd_T37 y148 x40_2).f1.f0), .int .i64 ((rd_T37 y148 x40_2).f1.f4.f0), .int .i64 ((rd_T37 y148 x40_2).f1.f4.f1)] (fun _ => True) (fun _ => False) rfl (by first | (go_simp; done) | (go_simp; rfl)) ?aP (fun _ hk => hk.elim) ?aF ?aO ?aB ?aS ?aL ?_; (case aP => exact k111_mkM _ _ _ (⟨(rd_T37 y148 x40_2).f1.f0, (⟨(rd_T37 y148 x40_2).f1.f4.f0, (rd_T37 y148 x40_2).f1.f4.f1⟩ : S33)⟩ : S111)); (case aB => exact (bh HB)); (case aF => exact (fun _ _ => trivial)); (case aO => exact (by (with_reducible repeat (first | apply Kd.R_alloc | apply Kd.R_drewN | apply Kd.R_drew)); exact Kd.R_mono (Kd.R_far (p := ⟨gb154, 6, none⟩) (Kd.R_far (p := ⟨gb154, 5, none⟩) (Kd.R_far (p := ⟨gb154, 4, none⟩) (Kd.R_far (p := ⟨gb154, 3, none⟩) (Kd.R_far (p := ⟨gb154, 2, none⟩) (Kd.R_far (p := ⟨gb154, 1, none⟩) (Kd.R_far (p := ⟨gb154, 0, none⟩) (Kd.R_types HO_7.out BK154.out (by decide)) (fun _ hk => hk.2) (.string ((rd_T37 y148 x40_2).f0))) (fun _ hk => hk.2) (.int .i64 ((rd_T37 y148 x40_2).f1.f0))) (fun _ hk => hk.2) (.int .i64 ((rd_T37 y148 x40_2).f1.f1))) (fun _ hk => hk.2) (.slice A153_3 ((rd_T37 y148 x40_2).f1.f2).length c153_3)) (fun _ hk => hk.2) (.slice A153_4 ((rd_T37 y148 x40_2).f1.f3).length c153_4)) (fun _ hk => hk.2) (.int .i64 ((rd_T37 y148 x40_2).f1.f4.f0))) (fun _ hk => hk.2) (.int .i64 ((rd_T37 y148 x40_2).f1.f4.f1))) (fun _ hk => trivial))); (case aS => exact (below_size (bh HB))); (case aL => have := LMc28.out; omega); intro v156 w32 ho hb hg hat; rw [← Ny155.out] at ho; replace HO_38 := am_ (Kd.V_afterv (ok := (fun k_ => k_ ≠ gb141 ∧ k_ ≠ gb154)) (gV HO_38) hg hat); replace BK141 := tBg BK141 hg (Kd.R_ne HO_7.out BK141.out (by decide)); replace HL153_3 := am_ (Kd.V_afterv (ok := (fun k_ => k_ ≠ gb141 ∧ k_ ≠ gb154)) (gV HL153_3) hg hat); replace HL153_4 := am_ (Kd.V_afterv (ok := (fun k_ => k_ ≠ gb141 ∧ k_ ≠ gb154)) (gV HL153_4) hg hat); replace BK154 := am_ (blk_grown (g := gb154) (o := .cells #[.string ((rd_T37 y148 x40_2).f0), .int .i64 ((rd_T37 y148 x40_2).f1.f0), .int .i64 ((rd_T37 y148 x40_2).f1.f1), .slice A153_3 ((rd_T37 y148 x40_2).f1.f2).length c153_3, .slice A153_4 ((rd_T37 y148 x40_2).f1.f3).length c153_4, .int .i64 ((rd_T37 y148 x40_2).f1.f4.f0), .int .i64 ((rd_T37 y148 x40_2).f1.f4.f1)] 37 (0, 0)) (gP BK154 rfl) hg (Kd.R_ne HO_7.out BK154.out (by decide))); replace HB := am_ hb; have HO157 := am_ (ho); clear HO_7 ho hb hg hat))
       go_roundg k2
       case measure => have := HJ2.out; have := HK2.out; omega
       case rel => exact ⟨(y155), (wrap64 (x40_2 + 1)), fr, H', ⟨by have := HJ2.out; have := HK2.out; omega⟩, ⟨hR HO157⟩, ⟨gV HO_38⟩, ⟨gB BK141⟩, ⟨bh HB⟩⟩
      rw [if_neg c25] at H
      have c25b0 : decide (x40_2 < (y148.length : Int)) = false := decide_eq_false c25
      clear c25
      replace H := Option.bind_eq_some_iff.mp H
      obtain ⟨⟨t158, t159, t160⟩, A330, H⟩ := H
      replace H : (if t160 = 0 then ((Gc.f t158 t159 a0_0).bind fun t162 => (some (t162, 0))) else (some (0, t160))) = some (r1, r2) := H
      have A33 := am_ A330
      clear A330
      by_cases c34 : t160 = 0
      ·
       rw [if_pos c34] at H
       have c34b0 : (t160 == 0) = true := beq_iff_eq.mpr c34
       have c34b1 : (t160 != 0) = false := bne_eq_false_iff_eq.mpr c34
       clear c34
       replace H := Option.bind_eq_some_iff.mp H
       obtain ⟨t162, A350, H⟩ := H
       replace H : (some (t162, 0)) = some (r1, r2) := H
       have A35 := am_ A350
       clear A350
       simp only [Option.some.injEq, Prod.mk.injEq] at H
       obtain ⟨rfl, rfl⟩ := H
       obtain ⟨Ao36, co36, eo36⟩ := Kd.R_slice HO_7.out
       subst eo36
       go_wp2_with (first | ((with_reducible refine gate_callee (f := 92) rfl ?_); refine gl_ (some 57) Try.func92 #[.slice Ao36 x7_2.length co36] ?_; (with_reducible refine (Gg.calls _ _ x7_2 t158 t159 t160 _ ?side1 ?side2 A33.out).mono ?_); (case side1 => repeat (first | exact (Kd.R_reads' HO_7.out).2.2 | (with_reducible refine Kd.C_alloc ?_ _) | (with_reducible refine Kd.C_drewN ?_ _) | (with_reducible refine Kd.C_drew ?_))); (case side2 => exact (Kd.R_reads' HO_7.out).2.1); rintro e w37 ⟨rfl, hb⟩; refine ⟨_, rfl, ?_⟩; replace HO_7 := tRb HO_7 hb; replace HO_38 := tVb HO_38 hb; replace BK141 := tBb BK141 hb; replace HB := tHb HB hb; (try clear hb)) | ((with_reducible refine gd_ 10 ?_); refine be_ 10 #[.int .i64 0, .int .i64 0] 33 ?_; intro gb161 hg w38 hbox hb; replace HO_7 := tRb HO_7 hb; replace HO_38 := tVe HO_38 hg hb; have BK161 := am_ hbox; have GW161 := tG HB hg; have GE161 := tG HB hg; replace HB := tHb HB hb; have NB141_161 := tL BK141 hg; have NB161_141 := tR BK141 hg; replace BK141 := tBb BK141 hb; clear hb hbox hg; have hnb39 := NB161_141.out; have hnc39 := NB141_161.out; obtain ⟨z40_0, z40_1, y40_0, y40_1⟩ := bx2 BK161; obtain ⟨z41_0, z41_1, z41_2, y41_0, y41_1, y41_2⟩ := bx3 BK141) | ((with_reducible refine gate_callee (f := 93) rfl ?_); refine gl_ (some 66) Try.func93 #[.agg #[.int .i64 t158, .int .i64 t159], .int .i64 a0_0] ?_; (with_reducible refine (Gc.calls t158 t159 a0_0 t162 _ A35.out).mono ?_); rintro e w42 ⟨rfl, hb⟩; refine ⟨_, rfl, ?_⟩; replace HO_7 := am_ (Kd.R_below (by (with_reducible repeat (first | apply Kd.R_alloc | apply Kd.R_drewN | apply Kd.R_drew)); exact (Kd.R_mono (Kd.R_far (p := ⟨gb161, 1, none⟩) (Kd.R_far (p := ⟨gb161, 0, none⟩) (Kd.R_types HO_7.out BK161.out (by decide)) (fun _ hk => hk.2) (.int .i64 t158)) (fun _ hk => hk.2) (.int .i64 t159)) (fun _ h_ => h_.1))) hb); replace HO_38 := tVb HO_38 hb; replace BK141 := tBb BK141 hb; replace BK161 := am_ (blk_below (g := gb161) (o := .cells #[.int .i64 t158, .int .i64 t159] 33 (0, 0)) (gP BK161 rfl) hb); replace HB := tHb HB hb; (try clear hb)))
       go_ret2
       exact ⟨fe, bh HB⟩
      rw [if_neg c34] at H
      have c34b0 : (t160 == 0) = false := beq_eq_false_iff_ne.mpr c34
      have c34b1 : (t160 != 0) = true := bne_iff_ne.mpr c34
      simp only [Option.some.injEq, Prod.mk.injEq] at H
      obtain ⟨rfl, rfl⟩ := H
      obtain ⟨Ao43, co43, eo43⟩ := Kd.R_slice HO_7.out
      subst eo43
      go_wp2_with (first | ((with_reducible refine gate_callee (f := 92) rfl ?_); refine gl_ (some 57) Try.func92 #[.slice Ao43 x7_2.length co43] ?_; (with_reducible refine (Gg.calls _ _ x7_2 t158 t159 t160 _ ?side1 ?side2 A33.out).mono ?_); (case side1 => repeat (first | exact (Kd.R_reads' HO_7.out).2.2 | (with_reducible refine Kd.C_alloc ?_ _) | (with_reducible refine Kd.C_drewN ?_ _) | (with_reducible refine Kd.C_drew ?_))); (case side2 => exact (Kd.R_reads' HO_7.out).2.1); rintro e w44 ⟨rfl, hb⟩; refine ⟨_, rfl, ?_⟩; replace HO_7 := tRb HO_7 hb; replace HO_38 := tVb HO_38 hb; replace BK141 := tBb BK141 hb; replace HB := tHb HB hb; (try clear hb)) | ((with_reducible refine gd_ 10 ?_); refine be_ 10 #[.int .i64 0, .int .i64 0] 33 ?_; intro gb161 hg w45 hbox hb; replace HO_7 := tRb HO_7 hb; replace HO_38 := tVe HO_38 hg hb; have BK161 := am_ hbox; have GW161 := tG HB hg; have GE161 := tG HB hg; replace HB := tHb HB hb; have NB141_161 := tL BK141 hg; have NB161_141 := tR BK141 hg; replace BK141 := tBb BK141 hb; clear hb hbox hg; have hnb46 := NB161_141.out; have hnc46 := NB141_161.out; obtain ⟨z47_0, z47_1, y47_0, y47_1⟩ := bx2 BK161))
      go_ret2
      exact ⟨fe, bh HB⟩
   rw [if_neg c18] at H
   exact absurd H (by simp)

def G7.f (a0_0 : Int) (a0_1 : Int) (l0_2 : List SE) (a1 : Int) (a2 : Int) : Option (ByteArray × Int × Int × List (S129) × List ByteArray × Int × Int × Bool) := match l0_2.find? (fun x => x.f1.f0 == a1 && x.f1.f1 == a2) with
 | some x => some (x.f0, x.f1.f0, x.f1.f1, x.f1.f2, x.f1.f3, x.f1.f4.f0, x.f1.f4.f1, true)
 | none => some ((⟨#[]⟩ : ByteArray), 0, 0, [], [], 0, 0, false)
theorem G7.calls (a0_0 : Int) (a0_1 : Int) (P0_2_ : Nat → Prop) (A0_2 : Option Addr) (c0_2 : Nat) (l0_2 : List (S37)) (a1 : Int) (a2 : Int) (r1 : ByteArray) (r2 : Int) (r3 : Int) (r4 : List (S129)) (r5 : List ByteArray) (r6 : Int) (r7 : Int) (r8 : Bool) (w : World) (hs0_2 : Kd.V k37 37 w w.heap.size (fun k_ => P0_2_ k_) (.slice A0_2 l0_2.length c0_2) l0_2) (h : G7.f a0_0 a0_1 l0_2 a1 a2 = some (r1, r2, r3, r4, r5, r6, r7, r8)) :
  Calls Try.prog 67 #[.agg #[.int .i64 a0_0, .int .i64 a0_1, .slice A0_2 l0_2.length c0_2], .int .i64 a1, .int .i64 a2] w fun e w' => ∃ (v3_ : Value) (v4_ : Value), e = .returned (.tuple #[.agg #[.string r1, .int .i64 r2, .int .i64 r3, v3_, v4_, .int .i64 r6, .int .i64 r7], .bool r8]) ∧ Kd.V k129 129 w' w.heap.size (fun k_ => (P0_2_ k_ ∨ w.heap.size ≤ k_)) v3_ r4 ∧ Kd.V Kd.string 9 w' w.heap.size (fun k_ => (P0_2_ k_ ∨ w.heap.size ≤ k_)) v4_ r5 ∧ Below w.heap.size w w' := by
 obtain ⟨_, _, hF⟩ := Kd.V_at hs0_2
 have hmx := Kd.F_max hF
 obtain ⟨rs, hrs, hrow⟩ := F_relsE hF
 have hc := Si.by_c A0_2 c0_2 rs a0_0 a0_1 a1 a2 w hrow (by rw [hrs.len]; exact hmx)
 have hf := first_rel (fun r : Si.ER => r.au == a1 && r.ro == a2) (fun x : SE => x.f1.f0 == a1 && x.f1.f1 == a2) (fun r x hr => by rw [hr.2.1, hr.2.2.1]) rs l0_2 hrs
 rw [hrs.len] at hc
 unfold G7.f at h
 refine hc.mono ?_
 rintro e w' ⟨rfl, hb⟩
 cases hq : l0_2.find? (fun x => x.f1.f0 == a1 && x.f1.f1 == a2) with
 | some x =>
  rw [hq] at h hf
  dsimp only at h hf
  simp only [Option.some.injEq, Prod.mk.injEq] at h
  obtain ⟨rfl, rfl, rfl, rfl, rfl, rfl, rfl, rfl⟩ := h
  obtain ⟨h1, h2, h3, h4, h5, h6, h7, h8, h9, h10, h11, h12⟩ := hf
  rw [h1]
  generalize (Si.firstE (fun x => x.au == a1 && x.ro == a2) rs).1 = r at h2 h3 h4 h5 h6 h7 h8 h9 h10 h11 h12
  obtain ⟨yd, yau, yro, yA3, yn3, yc3, yA4, yn4, yc4, yea, yeb⟩ := r
  dsimp only at h2 h3 h4 h5 h6 h7 h8 h9 h10 h11 h12
  subst h2 h3 h4 h5 h8 h11 h12
  exact ⟨_, _, rfl, Kd.V_mono (Kd.V_mk h6 (Kd.F_below h7 hb)) (fun k hk => .inl hk), Kd.V_mono (Kd.V_mk h9 (Kd.F_below h10 hb)) (fun k hk => .inl hk), hb⟩
 | none =>
  rw [hq] at h hf
  dsimp only at h hf
  simp only [Option.some.injEq, Prod.mk.injEq] at h
  obtain ⟨rfl, rfl, rfl, rfl, rfl, rfl, rfl, rfl⟩ := h
  rw [hf]
  exact ⟨_, _, rfl, Kd.V_nil _ _ _ _ _, Kd.V_nil _ _ _ _ _, hb⟩

def G3.f (k : Nat) (a0_0 : Int) (a0_1 : Int) (l0_2 : List (S37)) (a1 : Int) : Option (ByteArray × Int × Int × (List (S129)) × List ByteArray × Int × Int × Int) := (F8.f k a0_0 a0_1 l0_2 a1).bind fun bt165 => (if bt165.2 = 0 then ((G7.f a0_0 a0_1 l0_2 bt165.1 (wrap64 ((wrap64 (3 * a1)) - 2))).bind fun bt167 => (if bt167.2.2.2.2.2.2.2 = true then (some (bt167.1, bt167.2.1, bt167.2.2.1, bt167.2.2.2.1, bt167.2.2.2.2.1, bt167.2.2.2.2.2.1, bt167.2.2.2.2.2.2.1, 0)) else (some ((⟨#[]⟩ : ByteArray), 0, 0, ([] : List (S129)), ([] : List ByteArray), 0, 0, 7)))) else (some ((⟨#[]⟩ : ByteArray), 0, 0, ([] : List (S129)), ([] : List ByteArray), 0, 0, bt165.2)))
set_option maxHeartbeats 8000000 in
set_option maxRecDepth 100000 in
theorem G3.calls (k : Nat) (a0_0 : Int) (a0_1 : Int) (P0_2_ : Nat → Prop) (A0_2 : Option Addr) (c0_2 : Nat) (l0_2 : List (S37)) (a1 : Int) (r1 : ByteArray) (r2 : Int) (r3 : Int) (r4 : List (S129)) (r5 : List ByteArray) (r6 : Int) (r7 : Int) (r8 : Int) (w : World) (hs0_2 : Kd.V k37 37 w w.heap.size (fun k_ => P0_2_ k_) (.slice A0_2 l0_2.length c0_2) l0_2) (h : G3.f k a0_0 a0_1 l0_2 a1 = some (r1, r2, r3, r4, r5, r6, r7, r8)) :
  Calls Try.prog 34 #[.agg #[.int .i64 a0_0, .int .i64 a0_1, .slice A0_2 l0_2.length c0_2], .int .i64 a1] w fun e w' => ∃ v3_ v4_ : Value, e = .returned (.tuple #[.agg #[.string r1, .int .i64 r2, .int .i64 r3, v3_, v4_, .int .i64 r6, .int .i64 r7], .int .i64 r8]) ∧ Kd.V k129 129 w' w.heap.size (fun k_ => (P0_2_ k_ ∨ w.heap.size ≤ k_)) v3_ r4 ∧ Kd.V Kd.string 9 w' w.heap.size (fun k_ => (P0_2_ k_ ∨ w.heap.size ≤ k_)) v4_ r5 ∧ Below w.heap.size w w' := by
 have hu24 := Try.underlying24
 have hu37 := Try.underlying37
 have HO0_2 := am_ (show Kd.V k37 37 w w.heap.size (fun k_ => (P0_2_ k_ ∨ w.heap.size ≤ k_)) (.slice A0_2 l0_2.length c0_2) l0_2 from Kd.V_mono hs0_2 (fun k_ hk => .inl hk))
 have HB := am_ (Below.refl w.heap.size w)
 have H : ((F8.f k a0_0 a0_1 l0_2 a1).bind fun bt165 => (if bt165.2 = 0 then ((G7.f a0_0 a0_1 l0_2 bt165.1 (wrap64 ((wrap64 (3 * a1)) - 2))).bind fun bt167 => (if bt167.2.2.2.2.2.2.2 = true then (some (bt167.1, bt167.2.1, bt167.2.2.1, bt167.2.2.2.1, bt167.2.2.2.2.1, bt167.2.2.2.2.2.1, bt167.2.2.2.2.2.2.1, 0)) else (some ((⟨#[]⟩ : ByteArray), 0, 0, ([] : List (S129)), ([] : List ByteArray), 0, 0, 7)))) else (some ((⟨#[]⟩ : ByteArray), 0, 0, ([] : List (S129)), ([] : List ByteArray), 0, 0, bt165.2)))) = some (r1, r2, r3, r4, r5, r6, r7, r8) := h
 clear h
 replace H := Option.bind_eq_some_iff.mp H
 obtain ⟨⟨t165, t166⟩, A30, H⟩ := H
 replace H : (if t166 = 0 then ((G7.f a0_0 a0_1 l0_2 t165 (wrap64 ((wrap64 (3 * a1)) - 2))).bind fun bt167 => (if bt167.2.2.2.2.2.2.2 = true then (some (bt167.1, bt167.2.1, bt167.2.2.1, bt167.2.2.2.1, bt167.2.2.2.2.1, bt167.2.2.2.2.2.1, bt167.2.2.2.2.2.2.1, 0)) else (some ((⟨#[]⟩ : ByteArray), 0, 0, ([] : List (S129)), ([] : List ByteArray), 0, 0, 7)))) else (some ((⟨#[]⟩ : ByteArray), 0, 0, ([] : List (S129)), ([] : List ByteArray), 0, 0, t166))) = some (r1, r2, r3, r4, r5, r6, r7, r8) := H
 have A3 := am_ A30
 clear A30
 by_cases c4 : t166 = 0
 ·
  rw [if_pos c4] at H
  have c4b0 : (t166 == 0) = true := beq_iff_eq.mpr c4
  have c4b1 : (t166 != 0) = false := bne_eq_false_iff_eq.mpr c4
  clear c4
  replace H := Option.bind_eq_some_iff.mp H
  obtain ⟨⟨t167, t168, t169, t170, t173, t176, t177, t178⟩, A50, H⟩ := H
  replace H : (if t178 = true then (some (t167, t168, t169, t170, t173, t176, t177, 0)) else (some ((⟨#[]⟩ : ByteArray), 0, 0, ([] : List (S129)), ([] : List ByteArray), 0, 0, 7))) = some (r1, r2, r3, r4, r5, r6, r7, r8) := H
  have A5 := am_ A50
  clear A50
  by_cases c6 : t178 = true
  ·
   subst c6
   rw [if_pos rfl] at H
   simp only [Option.some.injEq, Prod.mk.injEq] at H
   obtain ⟨rfl, rfl, rfl, rfl, rfl, rfl, rfl, rfl⟩ := H
   go_enter Try.func34, Try.ntmps34
   go_wp2_with (first | ((with_reducible refine gd_ 2 ?_); refine be_ 2 #[.int .i64 a0_0, .int .i64 a0_1, .slice A0_2 l0_2.length c0_2] 24 ?_; intro gb163 hg w7 hbox hb; replace HO0_2 := tVe HO0_2 hg hb; have BK163 := am_ hbox; have GW163 := tG HB hg; have GE163 := tG HB hg; replace HB := tHb HB hb; clear hb hbox hg) | ((with_reducible refine gd_ 4 ?_); refine be_ 4 #[.string (⟨#[]⟩ : ByteArray), .int .i64 0, .int .i64 0, .slice none 0 0, .slice none 0 0, .int .i64 0, .int .i64 0] 37 ?_; intro gb164 hg w8 hbox hb; replace HO0_2 := tVe HO0_2 hg hb; have BK164 := am_ hbox; have GW164 := tG HB hg; have GE164 := tG HB hg; replace HB := tHb HB hb; have NB163_164 := tL BK163 hg; have NB164_163 := tR BK163 hg; replace BK163 := tBb BK163 hb; clear hb hbox hg; have hnb9 := NB163_164.out; have hnc9 := NB164_163.out; obtain ⟨z10_0, z10_1, z10_2, y10_0, y10_1, y10_2⟩ := bx3 BK163) | ((with_reducible refine gate_callee (f := 66) rfl ?_); refine gl_ (some 13) Try.func66 #[.agg #[.int .i64 a0_0, .int .i64 a0_1, .slice A0_2 l0_2.length c0_2], .int .i64 a1] ?_; (with_reducible refine (F8.calls k a0_0 a0_1 _ _ l0_2 a1 t165 t166 _ ?side1 ?side2 A3.out).mono ?_); (case side1 => repeat (first | exact (Kd.V_reads' HO0_2.out).2.2 | (with_reducible refine Kd.C_alloc ?_ _) | (with_reducible refine Kd.C_drewN ?_ _) | (with_reducible refine Kd.C_drew ?_))); (case side2 => exact (Kd.V_reads' HO0_2.out).2.1); rintro e w11 ⟨rfl, hb⟩; refine ⟨_, rfl, ?_⟩; replace HO0_2 := tVb HO0_2 hb; replace BK163 := tBb BK163 hb; replace BK164 := tBb BK164 hb; replace HB := tHb HB hb; (try clear hb); obtain ⟨z12_0, z12_1, z12_2, y12_0, y12_1, y12_2⟩ := bx3 BK163) | ((with_reducible refine gate_callee (f := 67) rfl ?_); refine gl_ (some 26) Try.func67 #[.agg #[.int .i64 a0_0, .int .i64 a0_1, .slice A0_2 l0_2.length c0_2], .int .i64 t165, .int .i64 (wrap64 ((wrap64 (3 * a1)) - 2))] ?_; (with_reducible refine (G7.calls a0_0 a0_1 (fun k_ => (((P0_2_ k_ ∨ w.heap.size ≤ k_) ∧ k_ ≠ gb163) ∧ k_ ≠ gb164)) _ _ l0_2 t165 (wrap64 ((wrap64 (3 * a1)) - 2)) t167 t168 t169 t170 t173 t176 t177 true _ ?side1 A5.out).mono ?_); (case side1 => exact HO0_2.out); rintro e w13 ⟨v171, v174, rfl, ho0, ho1, hb⟩; refine ⟨_, rfl, ?_⟩; replace HO0_2 := tVb HO0_2 hb; have HO172 := am_ (Kd.V_lower (Kd.V_mono (ok' := fun k_ => (P0_2_ k_ ∨ w.heap.size ≤ k_) ∧ k_ ≠ gb163 ∧ k_ ≠ gb164) ho0 (fun k_ hk_ => ⟨Or.elim hk_ (fun hs_ => hs_.1.1) (fun hn_ => (.inr (Nat.le_trans (below_size (bh HB)) hn_))), Or.elim hk_ (fun hs_ => hs_.1.2) (fun hn_ => (gFr BK163 k_ hn_)), Or.elim hk_ (fun hs_ => hs_.2) (fun hn_ => (gFr BK164 k_ hn_))⟩)) (below_size (bh HB))); have HO175 := am_ (Kd.V_lower (Kd.V_mono (ok' := fun k_ => (P0_2_ k_ ∨ w.heap.size ≤ k_) ∧ k_ ≠ gb163 ∧ k_ ≠ gb164) ho1 (fun k_ hk_ => ⟨Or.elim hk_ (fun hs_ => hs_.1.1) (fun hn_ => (.inr (Nat.le_trans (below_size (bh HB)) hn_))), Or.elim hk_ (fun hs_ => hs_.1.2) (fun hn_ => (gFr BK163 k_ hn_)), Or.elim hk_ (fun hs_ => hs_.2) (fun hn_ => (gFr BK164 k_ hn_))⟩)) (below_size (bh HB))); replace BK163 := tBb BK163 hb; replace BK164 := tBb BK164 hb; replace HB := tHb HB hb; (try clear hb); (try clear ho0); (try clear ho1)) | ((with_reducible refine gd_ 8 ?_); refine be_ 8 #[.string (⟨#[]⟩ : ByteArray), .int .i64 0, .int .i64 0, .slice none 0 0, .slice none 0 0, .int .i64 0, .int .i64 0] 37 ?_; intro gb179 hg w14 hbox hb; replace HO0_2 := tVe HO0_2 hg hb; replace HO172 := tVe HO172 hg hb; replace HO175 := tVe HO175 hg hb; have BK179 := am_ hbox; have GW179 := tG HB hg; have GE179 := tG HB hg; replace HB := tHb HB hb; have NB163_179 := tL BK163 hg; have NB179_163 := tR BK163 hg; replace BK163 := tBb BK163 hb; have NB164_179 := tL BK164 hg; have NB179_164 := tR BK164 hg; replace BK164 := tBb BK164 hb; clear hb hbox hg; have hnb15 := NB179_163.out; have hnc15 := NB163_179.out; have hnb16 := NB179_164.out; have hnc16 := NB164_179.out; obtain ⟨z17_0, z17_1, z17_2, z17_3, z17_4, z17_5, z17_6, y17_0, y17_1, y17_2, y17_3, y17_4, y17_5, y17_6⟩ := bx7 BK179; obtain ⟨Ao18, co18, eo18⟩ := Kd.V_slice HO172.out; subst eo18; obtain ⟨Ao19, co19, eo19⟩ := Kd.V_slice HO175.out; subst eo19; obtain ⟨z20_0, z20_1, z20_2, z20_3, z20_4, z20_5, z20_6, y20_0, y20_1, y20_2, y20_3, y20_4, y20_5, y20_6⟩ := bx7 BK164))
   refine bodyPost_ret (results_ct rfl _ _ gb164 37 #[.string t167, .int .i64 t168, .int .i64 t169, .slice Ao18 t170.length co18, .slice Ao19 t173.length co19, .int .i64 t176, .int .i64 t177] (0, 0) _ rfl (gP BK164 rfl) Try.underlying37 rfl (by kernel_rfl)) rfl ?_
   exact ⟨_, _, fe, gV HO172, gV HO175, bh HB⟩
  replace c6 := Bool.eq_false_iff.mpr c6
  subst c6
  rw [if_neg (show ¬ (false = true) by decide)] at H
  simp only [Option.some.injEq, Prod.mk.injEq] at H
  obtain ⟨rfl, rfl, rfl, rfl, rfl, rfl, rfl, rfl⟩ := H
  go_enter Try.func34, Try.ntmps34
  go_wp2_with (first | ((with_reducible refine gd_ 2 ?_); refine be_ 2 #[.int .i64 a0_0, .int .i64 a0_1, .slice A0_2 l0_2.length c0_2] 24 ?_; intro gb163 hg w21 hbox hb; replace HO0_2 := tVe HO0_2 hg hb; have BK163 := am_ hbox; have GW163 := tG HB hg; have GE163 := tG HB hg; replace HB := tHb HB hb; clear hb hbox hg) | ((with_reducible refine gd_ 4 ?_); refine be_ 4 #[.string (⟨#[]⟩ : ByteArray), .int .i64 0, .int .i64 0, .slice none 0 0, .slice none 0 0, .int .i64 0, .int .i64 0] 37 ?_; intro gb164 hg w22 hbox hb; replace HO0_2 := tVe HO0_2 hg hb; have BK164 := am_ hbox; have GW164 := tG HB hg; have GE164 := tG HB hg; replace HB := tHb HB hb; have NB163_164 := tL BK163 hg; have NB164_163 := tR BK163 hg; replace BK163 := tBb BK163 hb; clear hb hbox hg; have hnb23 := NB163_164.out; have hnc23 := NB164_163.out; obtain ⟨z24_0, z24_1, z24_2, y24_0, y24_1, y24_2⟩ := bx3 BK163) | ((with_reducible refine gate_callee (f := 66) rfl ?_); refine gl_ (some 13) Try.func66 #[.agg #[.int .i64 a0_0, .int .i64 a0_1, .slice A0_2 l0_2.length c0_2], .int .i64 a1] ?_; (with_reducible refine (F8.calls k a0_0 a0_1 _ _ l0_2 a1 t165 t166 _ ?side1 ?side2 A3.out).mono ?_); (case side1 => repeat (first | exact (Kd.V_reads' HO0_2.out).2.2 | (with_reducible refine Kd.C_alloc ?_ _) | (with_reducible refine Kd.C_drewN ?_ _) | (with_reducible refine Kd.C_drew ?_))); (case side2 => exact (Kd.V_reads' HO0_2.out).2.1); rintro e w25 ⟨rfl, hb⟩; refine ⟨_, rfl, ?_⟩; replace HO0_2 := tVb HO0_2 hb; replace BK163 := tBb BK163 hb; replace BK164 := tBb BK164 hb; replace HB := tHb HB hb; (try clear hb); obtain ⟨z26_0, z26_1, z26_2, y26_0, y26_1, y26_2⟩ := bx3 BK163) | ((with_reducible refine gate_callee (f := 67) rfl ?_); refine gl_ (some 26) Try.func67 #[.agg #[.int .i64 a0_0, .int .i64 a0_1, .slice A0_2 l0_2.length c0_2], .int .i64 t165, .int .i64 (wrap64 ((wrap64 (3 * a1)) - 2))] ?_; (with_reducible refine (G7.calls a0_0 a0_1 (fun k_ => (((P0_2_ k_ ∨ w.heap.size ≤ k_) ∧ k_ ≠ gb163) ∧ k_ ≠ gb164)) _ _ l0_2 t165 (wrap64 ((wrap64 (3 * a1)) - 2)) t167 t168 t169 t170 t173 t176 t177 false _ ?side1 A5.out).mono ?_); (case side1 => exact HO0_2.out); rintro e w27 ⟨v171, v174, rfl, ho0, ho1, hb⟩; refine ⟨_, rfl, ?_⟩; replace HO0_2 := tVb HO0_2 hb; have HO172 := am_ (Kd.V_lower (Kd.V_mono (ok' := fun k_ => (P0_2_ k_ ∨ w.heap.size ≤ k_) ∧ k_ ≠ gb163 ∧ k_ ≠ gb164) ho0 (fun k_ hk_ => ⟨Or.elim hk_ (fun hs_ => hs_.1.1) (fun hn_ => (.inr (Nat.le_trans (below_size (bh HB)) hn_))), Or.elim hk_ (fun hs_ => hs_.1.2) (fun hn_ => (gFr BK163 k_ hn_)), Or.elim hk_ (fun hs_ => hs_.2) (fun hn_ => (gFr BK164 k_ hn_))⟩)) (below_size (bh HB))); have HO175 := am_ (Kd.V_lower (Kd.V_mono (ok' := fun k_ => (P0_2_ k_ ∨ w.heap.size ≤ k_) ∧ k_ ≠ gb163 ∧ k_ ≠ gb164) ho1 (fun k_ hk_ => ⟨Or.elim hk_ (fun hs_ => hs_.1.1) (fun hn_ => (.inr (Nat.le_trans (below_size (bh HB)) hn_))), Or.elim hk_ (fun hs_ => hs_.1.2) (fun hn_ => (gFr BK163 k_ hn_)), Or.elim hk_ (fun hs_ => hs_.2) (fun hn_ => (gFr BK164 k_ hn_))⟩)) (below_size (bh HB))); replace BK163 := tBb BK163 hb; replace BK164 := tBb BK164 hb; replace HB := tHb HB hb; (try clear hb); (try clear ho0); (try clear ho1)) | ((with_reducible refine gd_ 8 ?_); refine be_ 8 #[.string (⟨#[]⟩ : ByteArray), .int .i64 0, .int .i64 0, .slice none 0 0, .slice none 0 0, .int .i64 0, .int .i64 0] 37 ?_; intro gb179 hg w28 hbox hb; replace HO0_2 := tVe HO0_2 hg hb; replace HO172 := tVe HO172 hg hb; replace HO175 := tVe HO175 hg hb; have BK179 := am_ hbox; have GW179 := tG HB hg; have GE179 := tG HB hg; replace HB := tHb HB hb; have NB163_179 := tL BK163 hg; have NB179_163 := tR BK163 hg; replace BK163 := tBb BK163 hb; have NB164_179 := tL BK164 hg; have NB179_164 := tR BK164 hg; replace BK164 := tBb BK164 hb; clear hb hbox hg; have hnb29 := NB179_163.out; have hnc29 := NB163_179.out; have hnb30 := NB179_164.out; have hnc30 := NB164_179.out; obtain ⟨z31_0, z31_1, z31_2, z31_3, z31_4, z31_5, z31_6, y31_0, y31_1, y31_2, y31_3, y31_4, y31_5, y31_6⟩ := bx7 BK179; obtain ⟨Ao32, co32, eo32⟩ := Kd.V_slice HO172.out; subst eo32; obtain ⟨Ao33, co33, eo33⟩ := Kd.V_slice HO175.out; subst eo33; obtain ⟨z34_0, z34_1, z34_2, z34_3, z34_4, z34_5, z34_6, y34_0, y34_1, y34_2, y34_3, y34_4, y34_5, y34_6⟩ := bx7 BK164))
  refine bodyPost_ret (results_ct rfl _ _ gb164 37 #[.string (⟨#[]⟩ : ByteArray), .int .i64 0, .int .i64 0, .slice none 0 0, .slice none 0 0, .int .i64 0, .int .i64 0] (0, 0) _ rfl (gP BK164 rfl) Try.underlying37 rfl (by kernel_rfl)) rfl ?_
  exact ⟨_, _, fe, Kd.V_nil _ _ _ _ _, Kd.V_nil _ _ _ _ _, bh HB⟩
 rw [if_neg c4] at H
 have c4b0 : (t166 == 0) = false := beq_eq_false_iff_ne.mpr c4
 have c4b1 : (t166 != 0) = true := bne_iff_ne.mpr c4
 simp only [Option.some.injEq, Prod.mk.injEq] at H
 obtain ⟨rfl, rfl, rfl, rfl, rfl, rfl, rfl, rfl⟩ := H
 go_enter Try.func34, Try.ntmps34
 go_wp2_with (first | ((with_reducible refine gd_ 2 ?_); refine be_ 2 #[.int .i64 a0_0, .int .i64 a0_1, .slice A0_2 l0_2.length c0_2] 24 ?_; intro gb163 hg w35 hbox hb; replace HO0_2 := tVe HO0_2 hg hb; have BK163 := am_ hbox; have GW163 := tG HB hg; have GE163 := tG HB hg; replace HB := tHb HB hb; clear hb hbox hg) | ((with_reducible refine gd_ 4 ?_); refine be_ 4 #[.string (⟨#[]⟩ : ByteArray), .int .i64 0, .int .i64 0, .slice none 0 0, .slice none 0 0, .int .i64 0, .int .i64 0] 37 ?_; intro gb164 hg w36 hbox hb; replace HO0_2 := tVe HO0_2 hg hb; have BK164 := am_ hbox; have GW164 := tG HB hg; have GE164 := tG HB hg; replace HB := tHb HB hb; have NB163_164 := tL BK163 hg; have NB164_163 := tR BK163 hg; replace BK163 := tBb BK163 hb; clear hb hbox hg; have hnb37 := NB163_164.out; have hnc37 := NB164_163.out; obtain ⟨z38_0, z38_1, z38_2, y38_0, y38_1, y38_2⟩ := bx3 BK163) | ((with_reducible refine gate_callee (f := 66) rfl ?_); refine gl_ (some 13) Try.func66 #[.agg #[.int .i64 a0_0, .int .i64 a0_1, .slice A0_2 l0_2.length c0_2], .int .i64 a1] ?_; (with_reducible refine (F8.calls k a0_0 a0_1 _ _ l0_2 a1 t165 t166 _ ?side1 ?side2 A3.out).mono ?_); (case side1 => repeat (first | exact (Kd.V_reads' HO0_2.out).2.2 | (with_reducible refine Kd.C_alloc ?_ _) | (with_reducible refine Kd.C_drewN ?_ _) | (with_reducible refine Kd.C_drew ?_))); (case side2 => exact (Kd.V_reads' HO0_2.out).2.1); rintro e w39 ⟨rfl, hb⟩; refine ⟨_, rfl, ?_⟩; replace HO0_2 := tVb HO0_2 hb; replace BK163 := tBb BK163 hb; replace BK164 := tBb BK164 hb; replace HB := tHb HB hb; (try clear hb); obtain ⟨z40_0, z40_1, z40_2, z40_3, z40_4, z40_5, z40_6, y40_0, y40_1, y40_2, y40_3, y40_4, y40_5, y40_6⟩ := bx7 BK164))
 refine bodyPost_ret (results_ct rfl _ _ gb164 37 #[.string (⟨#[]⟩ : ByteArray), .int .i64 0, .int .i64 0, .slice none 0 0, .slice none 0 0, .int .i64 0, .int .i64 0] (0, 0) _ rfl (gP BK164 rfl) Try.underlying37 rfl (by kernel_rfl)) rfl ?_
 exact ⟨_, _, fe, Kd.V_nil _ _ _ _ _, Kd.V_nil _ _ _ _ _, bh HB⟩

def Fq.l0 : Nat → Int → List (S37) → Int → Int → ByteArray → Int → Int → List (S129) → List ByteArray → Int → Int → Option (Int)
 | 0, _, _, _, _, _, _, _, _, _, _, _ => none
 | k + 1, x5, x13, x14, x15, x182000, x182001, x182002, x182003, x182004, x182005, x182006 => if x15 < x14 then (if 0 ≤ x15 then (if x15 < (x13.length : Int) then ((Gf.f k ((rd_T37 x13 x15).f1.f3) x182000).bind fun t187 => (if t187 = true then (Fq.l0 k (wrap64 (x5 + 1)) x13 x14 (wrap64 (x15 + 1)) x182000 x182001 x182002 x182003 x182004 x182005 x182006) else (Fq.l0 k x5 x13 x14 (wrap64 (x15 + 1)) x182000 x182001 x182002 x182003 x182004 x182005 x182006))) else (none)) else (none)) else (some x5)
def Fq.f (k : Nat) (a0_0 : Int) (a0_1 : Int) (l0_2 : List (S37)) (a1_0 : ByteArray) (a1_1 : Int) (a1_2 : Int) (l1_3 : List (S129)) (l1_4 : List ByteArray) (a1_5 : Int) (a1_6 : Int) : Option (Int) := (Fm.f k a0_0 a0_1 l0_2 (wrap64 (a1_2 + 1))).bind fun t182 => (Fq.l0 k 0 t182 (t182.length : Int) 0 a1_0 a1_1 a1_2 l1_3 l1_4 a1_5 a1_6)
set_option maxHeartbeats 8000000 in
set_option maxRecDepth 100000 in
theorem Fq.calls (k : Nat) (a0_0 : Int) (a0_1 : Int) (A0_2 : Option Addr) (c0_2 : Nat) (l0_2 : List (S37)) (a1_0 : ByteArray) (a1_1 : Int) (a1_2 : Int) (A1_3 : Option Addr) (c1_3 : Nat) (l1_3 : List (S129)) (A1_4 : Option Addr) (c1_4 : Nat) (l1_4 : List ByteArray) (a1_5 : Int) (a1_6 : Int) (r : Int) (w : World) (hr0_2 : Kd.C k37 w A0_2 l0_2.length l0_2) (hc0_2 : l0_2.length ≤ c0_2) (hr1_3 : Kd.C k129 w A1_3 l1_3.length l1_3) (hc1_3 : l1_3.length ≤ c1_3) (hr1_4 : Kd.C Kd.string w A1_4 l1_4.length l1_4) (hc1_4 : l1_4.length ≤ c1_4) (h : Fq.f k a0_0 a0_1 l0_2 a1_0 a1_1 a1_2 l1_3 l1_4 a1_5 a1_6 = some r) :
  Calls Try.prog 37 #[.agg #[.int .i64 a0_0, .int .i64 a0_1, .slice A0_2 l0_2.length c0_2], .agg #[.string a1_0, .int .i64 a1_1, .int .i64 a1_2, .slice A1_3 l1_3.length c1_3, .slice A1_4 l1_4.length c1_4, .int .i64 a1_5, .int .i64 a1_6]] w fun e w' => e = .returned (.int .i64 r) ∧ Below w.heap.size w w' := by
 have hu24 := Try.underlying24
 have hu37 := Try.underlying37
 have HR0_2 := am_ hr0_2
 have HC0_2 := am_ hc0_2
 clear hr0_2 hc0_2
 have HR1_3 := am_ hr1_3
 have HC1_3 := am_ hc1_3
 clear hr1_3 hc1_3
 have HR1_4 := am_ hr1_4
 have HC1_4 := am_ hc1_4
 clear hr1_4 hc1_4
 have HB := am_ (Below.refl w.heap.size w)
 have H : ((Fm.f k a0_0 a0_1 l0_2 (wrap64 (a1_2 + 1))).bind fun t182 => (Fq.l0 k 0 t182 (t182.length : Int) 0 a1_0 a1_1 a1_2 l1_3 l1_4 a1_5 a1_6)) = some r := h
 clear h
 replace H := Option.bind_eq_some_iff.mp H
 obtain ⟨t182, A30, H⟩ := H
 replace H : (Fq.l0 k 0 t182 (t182.length : Int) 0 a1_0 a1_1 a1_2 l1_3 l1_4 a1_5 a1_6) = some r := H
 have A3 := am_ A30
 clear A30
 have H' := am_ H
 clear H
 go_enter Try.func37, Try.ntmps37
 go_wp2_with (first | ((with_reducible refine gd_ 2 ?_); refine be_ 2 #[.int .i64 a0_0, .int .i64 a0_1, .slice A0_2 l0_2.length c0_2] 24 ?_; intro gb180 hg w4 hbox hb; have BK180 := am_ hbox; have GW180 := tG HB hg; have GE180 := tG HB hg; replace HB := tHb HB hb; clear hb hbox hg) | ((with_reducible refine gd_ 3 ?_); refine be_ 3 #[.string a1_0, .int .i64 a1_1, .int .i64 a1_2, .slice A1_3 l1_3.length c1_3, .slice A1_4 l1_4.length c1_4, .int .i64 a1_5, .int .i64 a1_6] 37 ?_; intro gb181 hg w5 hbox hb; have BK181 := am_ hbox; have GW181 := tG HB hg; have GE181 := tG HB hg; replace HB := tHb HB hb; have NB180_181 := tL BK180 hg; have NB181_180 := tR BK180 hg; replace BK180 := tBb BK180 hb; clear hb hbox hg; have hnb6 := NB180_181.out; have hnc6 := NB181_180.out; obtain ⟨z7_0, z7_1, z7_2, y7_0, y7_1, y7_2⟩ := bx3 BK180; obtain ⟨z8_0, z8_1, z8_2, z8_3, z8_4, z8_5, z8_6, y8_0, y8_1, y8_2, y8_3, y8_4, y8_5, y8_6⟩ := bx7 BK181) | ((with_reducible refine gate_callee (f := 70) rfl ?_); refine gl_ (some 13) Try.func70 #[.agg #[.int .i64 a0_0, .int .i64 a0_1, .slice A0_2 l0_2.length c0_2], .int .i64 (wrap64 (a1_2 + 1))] ?_; (with_reducible refine (Fm.calls k a0_0 a0_1 (fun k_ => k_ < w.heap.size) _ _ l0_2 (wrap64 (a1_2 + 1)) t182 _ ?side1 A3.out).mono ?_); (case side1 => exact Kd.V_mk HC0_2.out (Kd.F_below (Kd.C_F k37_heap HR0_2.out) (bh HB))); rintro e w9 ⟨v183, rfl, ho0, hb⟩; refine ⟨_, rfl, ?_⟩; have HO184 := am_ (Kd.N_lower (Kd.N_mono (ok' := fun k_ => k_ ≠ gb180 ∧ k_ ≠ gb181) ho0 (fun k_ hk_ => ⟨Or.elim hk_ (fun hs_ => fun e_ => Nat.not_le.2 hs_ (by rw [e_]; exact GW180.out)) (fun hn_ => (gFr BK180 k_ hn_)), Or.elim hk_ (fun hs_ => fun e_ => Nat.not_le.2 hs_ (by rw [e_]; exact GW181.out)) (fun hn_ => (gFr BK181 k_ hn_))⟩)) (below_size (bh HB))); replace BK180 := tBb BK180 hb; replace BK181 := tBb BK181 hb; replace HB := tHb HB hb; (try clear hb); (try clear ho0); obtain ⟨Ao10, co10, eo10⟩ := Kd.N_slice HO184.out; subst eo10))
 go_loopg [5, 15] k (fun kq v5 v15 w' => ∃ (x5_1 : Int) (x15_1 : Int), v5 = .int .i64 x5_1 ∧ v15 = .int .i64 x15_1 ∧ Asc (Fq.l0 kq x5_1 t182 (t182.length : Int) x15_1 a1_0 a1_1 a1_2 l1_3 l1_4 a1_5 a1_6 = some r) ∧ Asc (kq ≤ k) ∧ Asc (Kd.N k37 37 w' w.heap.size (fun k_ => k_ ≠ gb180 ∧ k_ ≠ gb181) (.slice Ao10 t182.length co10) t182) ∧ Asc (w'.heap[gb180]? = some (.cells #[.int .i64 a0_0, .int .i64 a0_1, (.slice A0_2 l0_2.length c0_2)] 24 (0, 0))) ∧ Asc (w'.heap[gb181]? = some (.cells #[.string a1_0, .int .i64 a1_1, .int .i64 a1_2, (.slice A1_3 l1_3.length c1_3), (.slice A1_4 l1_4.length c1_4), .int .i64 a1_5, .int .i64 a1_6] 37 (0, 0))) ∧ Asc (Below w.heap.size w w'))
 case atStart => exact ⟨(0), (0), fr, fr, H', ⟨Nat.le_refl _⟩, ⟨hN HO184⟩, ⟨gB BK180⟩, ⟨gB BK181⟩, ⟨bh HB⟩⟩
 case round =>
  clear H'
  try clear z7_0 z7_1 z7_2 z8_0 z8_1 z8_2 z8_3 z8_4 z8_5 z8_6 y7_0 y7_1 y7_2 y8_0 y8_1 y8_2 y8_3 y8_4 y8_5 y8_6
  obtain ⟨x5_1, x15_1, rfl, rfl, HA, HK1, HO_13, BK180, BK181, HB⟩ := hrel
  cases gk with
  | zero => exact absurd HA.out (by simp [Fq.l0])
  | succ k1 =>
   have H := HA.out
   clear HA
   simp only [Fq.l0] at H
   by_cases c11 : x15_1 < (t182.length : Int)
   ·
    rw [if_pos c11] at H
    have c11b0 : decide (x15_1 < (t182.length : Int)) = true := decide_eq_true c11
    clear c11
    revert H
    refine gi (fun c12b0 H => ?_)
    revert H
    refine gi (fun c13b0 H => ?_)
    replace H := Option.bind_eq_some_iff.mp H
    obtain ⟨t187, A140, H⟩ := H
    replace H : (if t187 = true then (Fq.l0 k1 (wrap64 (x5_1 + 1)) t182 (t182.length : Int) (wrap64 (x15_1 + 1)) a1_0 a1_1 a1_2 l1_3 l1_4 a1_5 a1_6) else (Fq.l0 k1 x5_1 t182 (t182.length : Int) (wrap64 (x15_1 + 1)) a1_0 a1_1 a1_2 l1_3 l1_4 a1_5 a1_6)) = some r := H
    have A14 := am_ A140
    clear A140
    by_cases c15 : t187 = true
    ·
     subst c15
     rw [if_pos rfl] at H
     have H' := am_ H
     clear H
     have p185 : 0 ≤ (x15_1 : Int) := dt
     have q185 : x15_1 < (t182.length : Int) := dt
     obtain ⟨ad185, A185_3, c185_3, A185_4, c185_4, e185, hx185_0, hx185_1, hx185_2, hx185_3, hx185_4, hx185_5, hx185_6, hl185_3, hi185_3, hl185_4, hi185_4⟩ := at_T37 (Kd.N_reads' HO_13.out).2.2 x15_1 p185 q185
     cases e185
     obtain ⟨ce185, hce185, hMe185, hcc185⟩ := Kd.N_get HO_13.out z37 x15_1 p185 (by first | exact q185 | exact dt | (have e_ := (Kd.N_reads' HO_13.out).1; omega))
     obtain ⟨ua185_3, uc185_3, ua185_4, uc185_4, rfl, ul185_3, ge185_3, ul185_4, ge185_4⟩ := k37_openF hMe185
     have hv185_3 := hcc185 3 _ rfl
     rw [add_field _ _ 3 (by omega)] at hv185_3
     replace hv185_3 := Option.some.inj (hv185_3.symm.trans hx185_3)
     injection hv185_3 with hva_ hvn_ hvc_
     rw [hva_] at ge185_3
     rw [hvc_] at ul185_3
     have HL185_3 := am_ (show Kd.V k129 129 _ w.heap.size _ _ ((rd_T37 t182 x15_1).f1.f2) from Kd.V_mk ul185_3 ge185_3)
     clear hva_ hvn_ hvc_ ge185_3 ul185_3
     have hv185_4 := hcc185 4 _ rfl
     rw [add_field _ _ 4 (by omega)] at hv185_4
     replace hv185_4 := Option.some.inj (hv185_4.symm.trans hx185_4)
     injection hv185_4 with hva_ hvn_ hvc_
     rw [hva_] at ge185_4
     rw [hvc_] at ul185_4
     have HL185_4 := am_ (show Kd.V Kd.string 9 _ w.heap.size _ _ ((rd_T37 t182 x15_1).f1.f3) from Kd.V_mk ul185_4 ge185_4)
     clear hva_ hvn_ hvc_ ge185_4 ul185_4 hcc185 hce185
     have HR185_3 := am_ hi185_3
     have HC185_3 := am_ hl185_3
     clear hi185_3 hl185_3
     have HR185_4 := am_ hi185_4
     have HC185_4 := am_ hl185_4
     clear hi185_4 hl185_4
     replace p185 := eq_true p185
     replace q185 := eq_true q185
     go_wp2_with (first | ((with_reducible refine gd_ 7 ?_); refine be_ 7 #[.string (⟨#[]⟩ : ByteArray), .int .i64 0, .int .i64 0, .slice none 0 0, .slice none 0 0, .int .i64 0, .int .i64 0] 37 ?_; intro gb186 hg w16 hbox hb; replace HO_13 := tNe HO_13 hg hb; replace HL185_3 := tVe HL185_3 hg hb; replace HL185_4 := tVe HL185_4 hg hb; replace HR185_3 := tCb HR185_3 hb; replace HR185_4 := tCb HR185_4 hb; have BK186 := am_ hbox; have GW186 := tG HB hg; have GE186 := tG HB hg; replace HB := tHb HB hb; have NB180_186 := tL BK180 hg; have NB186_180 := tR BK180 hg; replace BK180 := tBb BK180 hb; have NB181_186 := tL BK181 hg; have NB186_181 := tR BK181 hg; replace BK181 := tBb BK181 hb; clear hb hbox hg; have hnb17 := NB186_180.out; have hnc17 := NB180_186.out; have hnb18 := NB186_181.out; have hnc18 := NB181_186.out; obtain ⟨z19_0, z19_1, z19_2, z19_3, z19_4, z19_5, z19_6, y19_0, y19_1, y19_2, y19_3, y19_4, y19_5, y19_6⟩ := bx7 BK186; have hnb20 := NB181_180.out; have hnc20 := NB180_181.out; obtain ⟨z21_0, z21_1, z21_2, z21_3, z21_4, z21_5, z21_6, y21_0, y21_1, y21_2, y21_3, y21_4, y21_5, y21_6⟩ := bx7 BK181) | ((with_reducible refine gate_callee (f := 53) rfl ?_); refine gl_ (some 24) Try.func53 #[.slice A185_4 ((rd_T37 t182 x15_1).f1.f3).length c185_4, .string a1_0] ?_; (with_reducible refine (Gf.calls k1 _ _ ((rd_T37 t182 x15_1).f1.f3) a1_0 true _ ?side1 ?side2 A14.out).mono ?_); (case side1 => repeat (first | exact ((Kd.V_reads' (hV HL185_4)).2.2) | (with_reducible refine Kd.C_alloc ?_ _) | (with_reducible refine Kd.C_drewN ?_ _) | (with_reducible refine Kd.C_drew ?_))); (case side2 => exact HC185_4.out); rintro e w' ⟨rfl, ⟨nd, rfl⟩⟩; refine ⟨_, rfl, ?_⟩))
     go_roundg k1
     case measure => have := HK1.out; omega
     case rel => exact ⟨(wrap64 (x5_1 + 1)), (wrap64 (x15_1 + 1)), fr, fr, H', kS HK1, ⟨gN HO_13⟩, ⟨gB BK180⟩, ⟨gB BK181⟩, ⟨bh HB⟩⟩
    replace c15 := Bool.eq_false_iff.mpr c15
    subst c15
    rw [if_neg (show ¬ (false = true) by decide)] at H
    have H' := am_ H
    clear H
    have p185 : 0 ≤ (x15_1 : Int) := dt
    have q185 : x15_1 < (t182.length : Int) := dt
    obtain ⟨ad185, A185_3, c185_3, A185_4, c185_4, e185, hx185_0, hx185_1, hx185_2, hx185_3, hx185_4, hx185_5, hx185_6, hl185_3, hi185_3, hl185_4, hi185_4⟩ := at_T37 (Kd.N_reads' HO_13.out).2.2 x15_1 p185 q185
    cases e185
    obtain ⟨ce185, hce185, hMe185, hcc185⟩ := Kd.N_get HO_13.out z37 x15_1 p185 (by first | exact q185 | exact dt | (have e_ := (Kd.N_reads' HO_13.out).1; omega))
    obtain ⟨ua185_3, uc185_3, ua185_4, uc185_4, rfl, ul185_3, ge185_3, ul185_4, ge185_4⟩ := k37_openF hMe185
    have hv185_3 := hcc185 3 _ rfl
    rw [add_field _ _ 3 (by omega)] at hv185_3
    replace hv185_3 := Option.some.inj (hv185_3.symm.trans hx185_3)
    injection hv185_3 with hva_ hvn_ hvc_
    rw [hva_] at ge185_3
    rw [hvc_] at ul185_3
    have HL185_3 := am_ (show Kd.V k129 129 _ w.heap.size _ _ ((rd_T37 t182 x15_1).f1.f2) from Kd.V_mk ul185_3 ge185_3)
    clear hva_ hvn_ hvc_ ge185_3 ul185_3
    have hv185_4 := hcc185 4 _ rfl
    rw [add_field _ _ 4 (by omega)] at hv185_4
    replace hv185_4 := Option.some.inj (hv185_4.symm.trans hx185_4)
    injection hv185_4 with hva_ hvn_ hvc_
    rw [hva_] at ge185_4
    rw [hvc_] at ul185_4
    have HL185_4 := am_ (show Kd.V Kd.string 9 _ w.heap.size _ _ ((rd_T37 t182 x15_1).f1.f3) from Kd.V_mk ul185_4 ge185_4)
    clear hva_ hvn_ hvc_ ge185_4 ul185_4 hcc185 hce185
    have HR185_3 := am_ hi185_3
    have HC185_3 := am_ hl185_3
    clear hi185_3 hl185_3
    have HR185_4 := am_ hi185_4
    have HC185_4 := am_ hl185_4
    clear hi185_4 hl185_4
    replace p185 := eq_true p185
    replace q185 := eq_true q185
    go_wp2_with (first | ((with_reducible refine gd_ 7 ?_); refine be_ 7 #[.string (⟨#[]⟩ : ByteArray), .int .i64 0, .int .i64 0, .slice none 0 0, .slice none 0 0, .int .i64 0, .int .i64 0] 37 ?_; intro gb186 hg w22 hbox hb; replace HO_13 := tNe HO_13 hg hb; replace HL185_3 := tVe HL185_3 hg hb; replace HL185_4 := tVe HL185_4 hg hb; replace HR185_3 := tCb HR185_3 hb; replace HR185_4 := tCb HR185_4 hb; have BK186 := am_ hbox; have GW186 := tG HB hg; have GE186 := tG HB hg; replace HB := tHb HB hb; have NB180_186 := tL BK180 hg; have NB186_180 := tR BK180 hg; replace BK180 := tBb BK180 hb; have NB181_186 := tL BK181 hg; have NB186_181 := tR BK181 hg; replace BK181 := tBb BK181 hb; clear hb hbox hg; have hnb23 := NB186_180.out; have hnc23 := NB180_186.out; have hnb24 := NB186_181.out; have hnc24 := NB181_186.out; obtain ⟨z25_0, z25_1, z25_2, z25_3, z25_4, z25_5, z25_6, y25_0, y25_1, y25_2, y25_3, y25_4, y25_5, y25_6⟩ := bx7 BK186; have hnb26 := NB181_180.out; have hnc26 := NB180_181.out; obtain ⟨z27_0, z27_1, z27_2, z27_3, z27_4, z27_5, z27_6, y27_0, y27_1, y27_2, y27_3, y27_4, y27_5, y27_6⟩ := bx7 BK181) | ((with_reducible refine gate_callee (f := 53) rfl ?_); refine gl_ (some 24) Try.func53 #[.slice A185_4 ((rd_T37 t182 x15_1).f1.f3).length c185_4, .string a1_0] ?_; (with_reducible refine (Gf.calls k1 _ _ ((rd_T37 t182 x15_1).f1.f3) a1_0 false _ ?side1 ?side2 A14.out).mono ?_); (case side1 => repeat (first | exact ((Kd.V_reads' (hV HL185_4)).2.2) | (with_reducible refine Kd.C_alloc ?_ _) | (with_reducible refine Kd.C_drewN ?_ _) | (with_reducible refine Kd.C_drew ?_))); (case side2 => exact HC185_4.out); rintro e w' ⟨rfl, ⟨nd, rfl⟩⟩; refine ⟨_, rfl, ?_⟩))
    go_roundg k1
    case measure => have := HK1.out; omega
    case rel => exact ⟨(x5_1), (wrap64 (x15_1 + 1)), fr, fr, H', kS HK1, ⟨gN HO_13⟩, ⟨gB BK180⟩, ⟨gB BK181⟩, ⟨bh HB⟩⟩
   rw [if_neg c11] at H
   have c11b0 : decide (x15_1 < (t182.length : Int)) = false := decide_eq_false c11
   clear c11
   obtain rfl := Option.some.inj H
   go_wp2
   go_ret
   exact ⟨fe, bh HB⟩

end Go.Proofs.Ytcbfnmabckjijaa.PTuskStops
