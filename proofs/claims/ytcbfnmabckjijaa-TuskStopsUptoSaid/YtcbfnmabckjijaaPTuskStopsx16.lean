-- written by a program of this session (pp.py), out of the kit's print and this session's contracts
import Derived.Test.YtcbfnmabckjijaaPTuskStopsx0
import Derived.Test.YtcbfnmabckjijaaPTuskStopsx6
import Derived.Test.YtcbfnmabckjijaaPTuskStopsx7
import Derived.Test.YtcbfnmabckjijaaPTuskStopsx8
import Derived.Test.YtcbfnmabckjijaaPTuskStopsx15
import Derived.Test.YtcbfnmabckjijaaVTuskStopsPh
namespace Go.Proofs.Ytcbfnmabckjijaa.PTuskStops
open Go.RowKit Go.Proofs.YtcbfnmabckjijaaW.PrintWords Go.Proofs.YtcbfnmabckjijaaW.PrintLast Go.Proofs.YtcbfnmabckjijaaW.PrintMore
set_option linter.unusedVariables false
set_option linter.unusedSimpArgs false

mutual
def F4.l0 : Nat → Int → Int → Int → Int → List (S37) → Option (Int × Int × (List (S37)))
 | 0, _, _, _, _, _ => none
 | k + 1, x0, x4, x466000, x466001, x466002 => if x4 ≤ x0 then ((Fe.f k x466000 x466001 x466002 (wrap64 (x4 - 1))).bind fun t466 => (F4.l1 k x0 x4 t466 ([] : List ByteArray) 0 x466000 x466001 x466002)) else (some (x466000, x466001, x466002))
def F4.l1 : Nat → Int → Int → List (S37) → List ByteArray → Int → Int → Int → List (S37) → Option (Int × Int × (List (S37)))
 | 0, _, _, _, _, _, _, _, _ => none
 | k + 1, x0, x4, x5, x6, x7, x466000, x466001, x466002 => if x7 < (x5.length : Int) then (if 0 ≤ x7 then ((Fp.f k x6 ((rd_T37 x5 x7).f0)).bind fun t470 => (F4.l1 k x0 x4 x5 t470 (wrap64 (x7 + 1)) x466000 x466001 x466002)) else (none)) else (F4.l2 k x0 x4 x6 1 x466000 x466001 x466002)
def F4.l2 : Nat → Int → Int → List ByteArray → Int → Int → Int → List (S37) → Option (Int × Int × (List (S37)))
 | 0, _, _, _, _, _, _, _ => none
 | k + 1, x0, x4, x6, x8, x466000, x466001, x466002 => if x8 ≤ 4 then (if (Int.tmod x4 3) = 0 then ((G5.f k (⟨#[]⟩ : ByteArray) (wrap64 (Int.tdiv x4 3)) 4 x8).bind fun bt474 => ((Fg.f k x466000 x466001 x466002 x8 x4 ([] : List (S129)) x6 bt474.1 bt474.2).bind fun bt476 => (F4.l2 k x0 x4 x6 (wrap64 (x8 + 1)) bt476.1 bt476.2.1 bt476.2.2.1))) else ((Fg.f k x466000 x466001 x466002 x8 x4 ([] : List (S129)) x6 0 0).bind fun bt482 => (F4.l2 k x0 x4 x6 (wrap64 (x8 + 1)) bt482.1 bt482.2.1 bt482.2.2.1))) else (F4.l0 k x0 (wrap64 (x4 + 1)) x466000 x466001 x466002)
end
def F4.f (k : Nat) (a0 : Int) : Option (Int × Int × (List (S37))) := F4.l0 k a0 1 4 0 ([] : List (S37))
set_option maxHeartbeats 8000000 in
set_option maxRecDepth 100000 in
theorem F4.calls (k : Nat) (a0 : Int) (r1 : Int) (r2 : Int) (r3 : List (S37)) (w : World) (h : F4.f k a0 = some (r1, r2, r3)) :
  Calls Try.prog 33 #[.int .i64 a0] w fun e w' => ∃ v2_ : Value, e = .returned (.agg #[.int .i64 r1, .int .i64 r2, v2_]) ∧ Kd.V k37 37 w' w.heap.size (fun k_ => (w.heap.size ≤ k_)) v2_ r3 ∧ Below w.heap.size w w' := by
 have hu24 := Try.underlying24
 have hu35 := Try.underlying35
 have hu33 := Try.underlying33
 have HB := am_ (Below.refl w.heap.size w)
 have H : (F4.l0 k a0 1 4 0 ([] : List (S37))) = some (r1, r2, r3) := h
 clear h
 have H' := am_ H
 clear H
 go_enter Try.func33, Try.ntmps33
 go_wp2_with (first | ((with_reducible refine gd_ 2 ?_); refine be_ 2 #[.int .i64 0, .int .i64 0, .slice none 0 0] 24 ?_; intro gb464 hg w2 hbox hb; have BK464 := am_ hbox; have GW464 := tG HB hg; have GE464 := tG HB hg; replace HB := tHb HB hb; clear hb hbox hg) | ((with_reducible refine gd_ 3 ?_); refine be_ 3 #[.int .i64 0, .int .i64 0, .slice none 0 0] 24 ?_; intro gb465 hg w3 hbox hb; have BK465 := am_ hbox; have GW465 := tG HB hg; have GE465 := tG HB hg; replace HB := tHb HB hb; have NB464_465 := tL BK464 hg; have NB465_464 := tR BK464 hg; replace BK464 := tBb BK464 hb; clear hb hbox hg; have hnb4 := NB465_464.out; have hnc4 := NB464_465.out; obtain ⟨z5_0, z5_1, z5_2, y5_0, y5_1, y5_2⟩ := bx3 BK465))
 go_loopg [4] k (fun kq v4 w' => ∃ (x4_1 : Int) (x466000_1 : Int) (x466001_1 : Int) (x466002_1 : List (S37)) (u466002 : Value), v4 = .int .i64 x4_1 ∧ Asc (F4.l0 kq a0 x4_1 x466000_1 x466001_1 x466002_1 = some (r1, r2, r3)) ∧ Asc (kq ≤ k) ∧ Asc (Kd.V k37 37 w' w.heap.size (fun k_ => (w.heap.size ≤ k_) ∧ k_ ≠ gb464 ∧ k_ ≠ gb465) u466002 x466002_1) ∧ Asc (w'.heap[gb464]? = some (.cells #[.int .i64 0, .int .i64 0, (.slice none 0 0)] 24 (0, 0))) ∧ Asc (w'.heap[gb465]? = some (.cells #[.int .i64 x466000_1, .int .i64 x466001_1, u466002] 24 (0, 0))) ∧ Asc (Below w.heap.size w w'))
 case atStart => exact ⟨(1), (4), (0), (([] : List (S37))), (.slice none 0 0), fr, H', ⟨Nat.le_refl _⟩, ⟨Kd.V_nil _ _ _ _ _⟩, ⟨gB BK464⟩, ⟨gP BK465 rfl⟩, ⟨bh HB⟩⟩
 case round =>
  clear H'
  try clear z5_0 z5_1 z5_2 y5_0 y5_1 y5_2
  obtain ⟨x4_1, x466000_1, x466001_1, x466002_1, u466002, rfl, HA, HK1, HO_466002, BK464, BK465, HB⟩ := hrel
  cases gk with
  | zero => exact absurd HA.out (by simp [F4.l0])
  | succ k1 =>
   have H := HA.out
   clear HA
   simp only [F4.l0] at H
   by_cases c6 : x4_1 ≤ a0
   ·
    rw [if_pos c6] at H
    have c6b0 : decide (x4_1 ≤ a0) = true := decide_eq_true c6
    clear c6
    replace H := Option.bind_eq_some_iff.mp H
    obtain ⟨t466, A70, H⟩ := H
    replace H : (F4.l1 k1 a0 x4_1 t466 ([] : List ByteArray) 0 x466000_1 x466001_1 x466002_1) = some (r1, r2, r3) := H
    have A7 := am_ A70
    clear A70
    have H' := am_ H
    clear H
    have hnb8 := NB465_464.out
    have hnc8 := NB464_465.out
    obtain ⟨z9_0, z9_1, z9_2, y9_0, y9_1, y9_2⟩ := bx3 BK465
    obtain ⟨Ao10, co10, eo10⟩ := Kd.V_slice HO_466002.out
    subst eo10
    go_wp2_with (first | ((with_reducible refine gate_callee (f := 62) rfl ?_); refine gl_ (some 19) Try.func62 #[.agg #[.int .i64 x466000_1, .int .i64 x466001_1, .slice Ao10 x466002_1.length co10], .int .i64 (wrap64 (x4_1 - 1))] ?_; (with_reducible refine (Fe.calls k1 x466000_1 x466001_1 (fun k_ => ((w.heap.size ≤ k_) ∧ (k_ ≠ gb464 ∧ k_ ≠ gb465))) _ _ x466002_1 (wrap64 (x4_1 - 1)) t466 _ ?side1 A7.out).mono ?_); (case side1 => exact HO_466002.out); rintro e w11 ⟨v467, rfl, ho0, hb⟩; refine ⟨_, rfl, ?_⟩; replace HO_466002 := am_ (Kd.V_elder' (hV HO_466002) (Kd.N_base ho0) hb); have HO468 := am_ (Kd.N_lower (Kd.N_mono (ok' := fun k_ => (w.heap.size ≤ k_) ∧ k_ ≠ gb464 ∧ k_ ≠ gb465) ho0 (fun k_ hk_ => ⟨Or.elim hk_ (fun hs_ => hs_.1) (fun hn_ => (Nat.le_trans (below_size (bh HB)) hn_)), Or.elim hk_ (fun hs_ => hs_.2.1) (fun hn_ => (gFr BK464 k_ hn_)), Or.elim hk_ (fun hs_ => hs_.2.2) (fun hn_ => (gFr BK465 k_ hn_))⟩)) (below_size (bh HB))); replace BK464 := tBb BK464 hb; replace BK465 := tBb BK465 hb; replace HB := tHb HB hb; (try clear hb); (try clear ho0)))
    go_loopg [6, 7] k1 (fun kq v6 v7 w' => ∃ (x6_2 : List ByteArray) (x7_2 : Int), v7 = .int .i64 x7_2 ∧ Asc (F4.l1 kq a0 x4_1 t466 x6_2 x7_2 x466000_1 x466001_1 x466002_1 = some (r1, r2, r3)) ∧ Asc (kq ≤ k1) ∧ Asc (Kd.N k37 37 w' w.heap.size (fun k_ => (w.heap.size ≤ k_) ∧ some k_ ≠ (v6 : Value).ownBlock ∧ k_ ≠ gb464 ∧ k_ ≠ gb465) v467 t466) ∧ Asc (Kd.R Kd.string 9 w' w.heap.size (fun k_ => (w.heap.size ≤ k_)) v6 x6_2) ∧ Asc (Kd.V k37 37 w' w.heap.size (fun k_ => (w.heap.size ≤ k_) ∧ some k_ ≠ (v467 : Value).ownBlock ∧ k_ ≠ gb464 ∧ k_ ≠ gb465) (.slice Ao10 x466002_1.length co10) x466002_1) ∧ Asc (w'.heap[gb464]? = some (.cells #[.int .i64 0, .int .i64 0, (.slice none 0 0)] 24 (0, 0))) ∧ Asc (w'.heap[gb465]? = some (.cells #[.int .i64 x466000_1, .int .i64 x466001_1, (.slice Ao10 x466002_1.length co10)] 24 (0, 0))) ∧ Asc (Below w.heap.size w w'))
    case atStart => exact ⟨(([] : List ByteArray)), (0), fr, H', ⟨Nat.le_refl _⟩, ⟨gN HO468⟩, ⟨kn⟩, ⟨gV HO_466002⟩, ⟨gB BK464⟩, ⟨gB BK465⟩, ⟨bh HB⟩⟩
    case round =>
     clear H'
     try clear c6b0 z9_0 z9_1 z9_2 y9_0 y9_1 y9_2
     obtain ⟨x6_2, x7_2, rfl, HA, HK2, HO_5, HO_6, HO_466002, BK464, BK465, HB⟩ := hrel
     cases gk with
     | zero => exact absurd HA.out (by simp [F4.l1])
     | succ k2 =>
      have H := HA.out
      clear HA
      simp only [F4.l1] at H
      by_cases c12 : x7_2 < (t466.length : Int)
      ·
       rw [if_pos c12] at H
       have c12b0 : decide (x7_2 < (t466.length : Int)) = true := decide_eq_true c12
       clear c12
       revert H
       refine gi (fun c13b0 H => ?_)
       replace H := Option.bind_eq_some_iff.mp H
       obtain ⟨t470, A140, H⟩ := H
       replace H : (F4.l1 k2 a0 x4_1 t466 t470 (wrap64 (x7_2 + 1)) x466000_1 x466001_1 x466002_1) = some (r1, r2, r3) := H
       have A14 := am_ A140
       clear A140
       have H' := am_ H
       clear H
       obtain ⟨Ao15, co15, eo15⟩ := Kd.N_slice HO_5.out
       subst eo15
       have p469 : 0 ≤ (x7_2 : Int) := dt
       have q469 : x7_2 < (t466.length : Int) := dt
       obtain ⟨ad469, A469_3, c469_3, A469_4, c469_4, e469, hx469_0, hx469_1, hx469_2, hx469_3, hx469_4, hx469_5, hx469_6, hl469_3, hi469_3, hl469_4, hi469_4⟩ := at_T37 (Kd.N_reads' HO_5.out).2.2 x7_2 p469 q469
       cases e469
       obtain ⟨ce469, hce469, hMe469, hcc469⟩ := Kd.N_get HO_5.out z37 x7_2 p469 (by first | exact q469 | exact dt | (have e_ := (Kd.N_reads' HO_5.out).1; omega))
       obtain ⟨ua469_3, uc469_3, ua469_4, uc469_4, rfl, ul469_3, ge469_3, ul469_4, ge469_4⟩ := k37_openF hMe469
       have hv469_3 := hcc469 3 _ rfl
       rw [add_field _ _ 3 (by omega)] at hv469_3
       replace hv469_3 := Option.some.inj (hv469_3.symm.trans hx469_3)
       injection hv469_3 with hva_ hvn_ hvc_
       rw [hva_] at ge469_3
       rw [hvc_] at ul469_3
       have HL469_3 := am_ (show Kd.V k129 129 _ w.heap.size _ _ ((rd_T37 t466 x7_2).f1.f2) from Kd.V_mk ul469_3 ge469_3)
       clear hva_ hvn_ hvc_ ge469_3 ul469_3
       have hv469_4 := hcc469 4 _ rfl
       rw [add_field _ _ 4 (by omega)] at hv469_4
       replace hv469_4 := Option.some.inj (hv469_4.symm.trans hx469_4)
       injection hv469_4 with hva_ hvn_ hvc_
       rw [hva_] at ge469_4
       rw [hvc_] at ul469_4
       have HL469_4 := am_ (show Kd.V Kd.string 9 _ w.heap.size _ _ ((rd_T37 t466 x7_2).f1.f3) from Kd.V_mk ul469_4 ge469_4)
       clear hva_ hvn_ hvc_ ge469_4 ul469_4 hcc469 hce469
       have HR469_3 := am_ hi469_3
       have HC469_3 := am_ hl469_3
       clear hi469_3 hl469_3
       have HR469_4 := am_ hi469_4
       have HC469_4 := am_ hl469_4
       clear hi469_4 hl469_4
       replace p469 := eq_true p469
       replace q469 := eq_true q469
       obtain ⟨Ao16, co16, eo16⟩ := Kd.R_slice HO_6.out
       subst eo16
       go_wp2_with (first | ((with_reducible refine gate_callee (f := 63) rfl ?_); refine gl_ (some 32) Try.func63 #[.slice Ao16 x6_2.length co16, .string ((rd_T37 t466 x7_2).f0)] ?_; (with_reducible refine (Fp.calls k2 _ _ x6_2 ((rd_T37 t466 x7_2).f0) t470 _ ?side1 ?side2 A14.out).mono ?_); (case side1 => repeat (first | exact (Kd.R_reads' HO_6.out).2.2 | (with_reducible refine Kd.C_alloc ?_ _) | (with_reducible refine Kd.C_drewN ?_ _) | (with_reducible refine Kd.C_drew ?_))); (case side2 => exact (Kd.R_reads' HO_6.out).2.1); rintro e w17 ⟨v471, rfl, ho0, hb⟩; refine ⟨_, rfl, ?_⟩; replace HO_5 := am_ (Kd.N_elder' (hN HO_5) (Kd.R_base ho0) hb); replace HO_466002 := am_ (Kd.V_elder' (hV HO_466002) (Kd.R_base ho0) hb); replace HL469_3 := am_ (Kd.V_elder' (hV HL469_3) (Kd.R_base ho0) hb); replace HL469_4 := am_ (Kd.V_elder' (hV HL469_4) (Kd.R_base ho0) hb); have HO472 := am_ (Kd.R_lower (Kd.R_new' (Kd.R_newM (M := fun k_ => (w.heap.size ≤ k_)) ho0 (below_size (bh HB)) (fun k_ h_ => h_)) (Kd.R_lt (hR HO_6))) (below_size (bh HB))); replace HO_6 := am_ (Kd.R_elder' (hR HO_6) (Kd.R_base ho0) hb); replace BK464 := tBb BK464 hb; replace BK465 := tBb BK465 hb; replace HR469_3 := tCb HR469_3 hb; replace HR469_4 := tCb HR469_4 hb; replace HB := tHb HB hb; (try clear hb); (try clear ho0)))
       go_roundg k2
       case measure => have := HK1.out; have := HK2.out; omega
       case rel => exact ⟨(t470), (wrap64 (x7_2 + 1)), fr, H', ⟨by have := HK1.out; have := HK2.out; omega⟩, ⟨gN HO_5⟩, ⟨gR HO472⟩, ⟨gV HO_466002⟩, ⟨gB BK464⟩, ⟨gB BK465⟩, ⟨bh HB⟩⟩
      rw [if_neg c12] at H
      have c12b0 : decide (x7_2 < (t466.length : Int)) = false := decide_eq_false c12
      clear c12
      have H' := am_ H
      clear H
      obtain ⟨Ao18, co18, eo18⟩ := Kd.N_slice HO_5.out
      subst eo18
      go_wp2
      go_loopg [8] k2 (fun kq v8 w' => ∃ (x8_3 : Int) (x466000_3 : Int) (x466001_3 : Int) (x466002_3 : List (S37)) (u466002 : Value), v8 = .int .i64 x8_3 ∧ Asc (F4.l2 kq a0 x4_1 x6_2 x8_3 x466000_3 x466001_3 x466002_3 = some (r1, r2, r3)) ∧ Asc (kq ≤ k2) ∧ Asc (Kd.R Kd.string 9 w' w.heap.size (fun k_ => (w.heap.size ≤ k_)) u6 x6_2) ∧ Asc (Kd.V k37 37 w' w.heap.size (fun k_ => (w.heap.size ≤ k_) ∧ k_ ≠ gb464 ∧ k_ ≠ gb465) u466002 x466002_3) ∧ Asc (w'.heap[gb464]? = some (.cells #[.int .i64 0, .int .i64 0, (.slice none 0 0)] 24 (0, 0))) ∧ Asc (w'.heap[gb465]? = some (.cells #[.int .i64 x466000_3, .int .i64 x466001_3, u466002] 24 (0, 0))) ∧ Asc (Below w.heap.size w w'))
      case atStart => exact ⟨(1), (x466000_1), (x466001_1), (x466002_1), (.slice Ao10 x466002_1.length co10), fr, H', ⟨Nat.le_refl _⟩, ⟨hR HO_6⟩, ⟨gV HO_466002⟩, ⟨gB BK464⟩, ⟨gB BK465⟩, ⟨bh HB⟩⟩
      case round =>
       clear H'
       try clear c12b0
       obtain ⟨x8_3, x466000_3, x466001_3, x466002_3, u466002, rfl, HA, HK3, HO_6, HO_466002, BK464, BK465, HB⟩ := hrel
       cases gk with
       | zero => exact absurd HA.out (by simp [F4.l2])
       | succ k3 =>
        have H := HA.out
        clear HA
        simp only [F4.l2] at H
        by_cases c19 : x8_3 ≤ 4
        ·
         rw [if_pos c19] at H
         have c19b0 : decide (x8_3 ≤ 4) = true := decide_eq_true c19
         clear c19
         by_cases c20 : (Int.tmod x4_1 3) = 0
         ·
          rw [if_pos c20] at H
          have c20b0 : ((Int.tmod x4_1 3) == 0) = true := beq_iff_eq.mpr c20
          have c20b1 : ((Int.tmod x4_1 3) != 0) = false := bne_eq_false_iff_eq.mpr c20
          clear c20
          replace H := Option.bind_eq_some_iff.mp H
          obtain ⟨⟨t474, t475⟩, A210, H⟩ := H
          replace H : ((Fg.f k3 x466000_3 x466001_3 x466002_3 x8_3 x4_1 ([] : List (S129)) x6_2 t474 t475).bind fun bt476 => (F4.l2 k3 a0 x4_1 x6_2 (wrap64 (x8_3 + 1)) bt476.1 bt476.2.1 bt476.2.2.1)) = some (r1, r2, r3) := H
          have A21 := am_ A210
          clear A210
          replace H := Option.bind_eq_some_iff.mp H
          obtain ⟨⟨t476, t477, t478, t481⟩, A220, H⟩ := H
          replace H : (F4.l2 k3 a0 x4_1 x6_2 (wrap64 (x8_3 + 1)) t476 t477 t478) = some (r1, r2, r3) := H
          have A22 := am_ A220
          clear A220
          have H' := am_ H
          clear H
          obtain ⟨Ao23, co23, eo23⟩ := Kd.R_slice HO_6.out
          subst eo23
          go_wp2_with (first | ((with_reducible refine gd_ 9 ?_); refine be_ 9 #[.int .i64 0, .int .i64 0, .slice none 0 0, .slice none 0 0, .int .i64 0, .int .i64 0] 35 ?_; intro gb473 hg w24 hbox hb; replace HO_6 := tRb HO_6 hb; replace HO_466002 := tVe HO_466002 hg hb; have BK473 := am_ hbox; have GW473 := tG HB hg; have GE473 := tG HB hg; replace HB := tHb HB hb; have NB464_473 := tL BK464 hg; have NB473_464 := tR BK464 hg; replace BK464 := tBb BK464 hb; have NB465_473 := tL BK465 hg; have NB473_465 := tR BK465 hg; replace BK465 := tBb BK465 hb; clear hb hbox hg; have hnb25 := NB473_464.out; have hnc25 := NB464_473.out; have hnb26 := NB473_465.out; have hnc26 := NB465_473.out; obtain ⟨z27_0, z27_1, z27_2, z27_3, z27_4, z27_5, y27_0, y27_1, y27_2, y27_3, y27_4, y27_5⟩ := bx6 BK473) | ((with_reducible refine gate_callee (f := 64) rfl ?_); refine gl_ (some 47) Try.func64 #[.string (⟨#[]⟩ : ByteArray), .int .i64 (wrap64 (Int.tdiv x4_1 3)), .int .i64 4, .int .i64 x8_3] ?_; (with_reducible refine (G5.calls k3 (⟨#[]⟩ : ByteArray) (wrap64 (Int.tdiv x4_1 3)) 4 x8_3 t474 t475 _ A21.out).mono ?_); rintro e w28 ⟨rfl, hb⟩; refine ⟨_, rfl, ?_⟩; replace HO_6 := am_ (Kd.R_below (by (with_reducible repeat (first | apply Kd.R_alloc | apply Kd.R_drewN | apply Kd.R_drew)); exact (Kd.R_mono (Kd.R_far (p := ⟨gb473, 5, none⟩) (Kd.R_far (p := ⟨gb473, 4, none⟩) (Kd.R_far (p := ⟨gb473, 3, none⟩) (Kd.R_far (p := ⟨gb473, 2, none⟩) (Kd.R_far (p := ⟨gb473, 1, none⟩) (Kd.R_far (p := ⟨gb473, 0, none⟩) (Kd.R_types HO_6.out BK473.out (by decide)) (fun _ hk => hk.2) (.int .i64 x8_3)) (fun _ hk => hk.2) (.int .i64 x4_1)) (fun _ hk => hk.2) (.slice none 0 0)) (fun _ hk => hk.2) (.slice Ao23 x6_2.length co23)) (fun _ hk => hk.2) (.int .i64 0)) (fun _ hk => hk.2) (.int .i64 0)) (fun _ h_ => h_.1))) hb); replace HO_466002 := tVb HO_466002 hb; replace BK464 := tBb BK464 hb; replace BK465 := tBb BK465 hb; replace BK473 := am_ (blk_below (g := gb473) (o := .cells #[.int .i64 x8_3, .int .i64 x4_1, .slice none 0 0, .slice Ao23 x6_2.length co23, .int .i64 0, .int .i64 0] 35 (0, 0)) (gP BK473 rfl) hb); replace HB := tHb HB hb; (try clear hb); obtain ⟨z29_0, z29_1, z29_2, z29_3, z29_4, z29_5, y29_0, y29_1, y29_2, y29_3, y29_4, y29_5⟩ := bx6 BK473) | ((with_reducible refine gate_store (t := 33) (p := 48) rfl ?_); refine se_ 33 48 ((w28.setCell ⟨gb473, 4, none⟩ (.int .i64 t474)).setCell ⟨gb473, 5, none⟩ (.int .i64 t475)) ?_; intro w30 hw; replace HO_6 : Asc (Kd.R Kd.string 9 w30 w.heap.size (fun k_ => (w.heap.size ≤ k_)) (.slice Ao23 x6_2.length co23) x6_2) := ⟨(by rw [hw]; exact (by (with_reducible repeat (first | apply Kd.R_alloc | apply Kd.R_drewN | apply Kd.R_drew)); exact Kd.R_mono (Kd.R_far (p := ⟨gb473, 5, none⟩) (Kd.R_far (p := ⟨gb473, 4, none⟩) (Kd.R_types HO_6.out BK473.out (by decide)) (fun _ hk => hk.2) (.int .i64 t474)) (fun _ hk => hk.2) (.int .i64 t475)) (fun _ hk => hk.1)))⟩; replace HO_466002 : Asc (Kd.V k37 37 w30 w.heap.size (fun k_ => (w.heap.size ≤ k_) ∧ k_ ≠ gb464 ∧ k_ ≠ gb465 ∧ k_ ≠ gb473) u466002 x466002_3) := ⟨(by rw [hw]; exact (gV HO_466002))⟩; replace BK464 : Asc (w30.heap[gb464]? = some (.cells #[.int .i64 0, .int .i64 0, .slice none 0 0] 24 (0, 0))) := ⟨(by rw [hw]; exact (gB BK464))⟩; replace BK465 : Asc (w30.heap[gb465]? = some (.cells #[.int .i64 x466000_3, .int .i64 x466001_3, u466002] 24 (0, 0))) := ⟨(by rw [hw]; exact (gB BK465))⟩; replace BK473 : Asc (w30.heap[gb473]? = some (.cells #[.int .i64 x8_3, .int .i64 x4_1, .slice none 0 0, .slice Ao23 x6_2.length co23, .int .i64 t474, .int .i64 t475] 35 (0, 0))) := ⟨(by rw [hw]; exact (gP BK473 rfl))⟩; replace HB : Asc (Below w.heap.size w w30) := ⟨(by rw [hw]; exact (bh HB))⟩; clear hw; have hnb31 := NB465_464.out; have hnc31 := NB464_465.out; obtain ⟨z32_0, z32_1, z32_2, y32_0, y32_1, y32_2⟩ := bx3 BK465; obtain ⟨z33_0, z33_1, z33_2, z33_3, z33_4, z33_5, y33_0, y33_1, y33_2, y33_3, y33_4, y33_5⟩ := bx6 BK473; obtain ⟨Ao34, co34, eo34⟩ := Kd.V_slice HO_466002.out; subst eo34) | ((with_reducible refine gate_callee (f := 65) rfl ?_); refine gl_ (some 52) Try.func65 #[.agg #[.int .i64 x466000_3, .int .i64 x466001_3, .slice Ao34 x466002_3.length co34], .agg #[.int .i64 x8_3, .int .i64 x4_1, .slice none 0 0, .slice Ao23 x6_2.length co23, .int .i64 t474, .int .i64 t475]] ?_; (refine (Fg.calls k3 x466000_3 x466001_3 (fun k_ => ((w.heap.size ≤ k_) ∧ (k_ ≠ gb464 ∧ (k_ ≠ gb465 ∧ k_ ≠ gb473)))) _ _ x466002_3 x8_3 x4_1 (fun k_ => False) _ _ ([] : List (S129)) (fun k_ => some k_ = (.slice Ao23 x6_2.length co23 : Value).ownBlock) _ _ x6_2 t474 t475 t476 t477 t478 t481 _ ?side1 ?side2 ?side3 A22.out).mono ?_); (case side1 => exact HO_466002.out); (case side2 => exact Kd.V_nil _ _ _ _ _); (case side3 => exact Kd.R_V (Kd.R_tight rfl (Kd.R_types (Kd.R_types (Kd.R_types (HO_6.out) BK464.out (by decide)) BK465.out (by decide)) BK473.out (by decide)))); rintro e w35 ⟨v479, rfl, ho0, hb⟩; refine ⟨_, rfl, ?_⟩; replace HO_466002 := tVb HO_466002 hb; have HO480 := am_ (Kd.V_lower (Kd.V_mono (ok' := fun k_ => (w.heap.size ≤ k_) ∧ k_ ≠ gb464 ∧ k_ ≠ gb465 ∧ k_ ≠ gb473) ho0 (fun k_ hk_ => ⟨Or.elim hk_ (fun hs_ => Or.elim hs_ (fun hs_ => hs_.1) (fun hs_ => Or.elim hs_ (fun hs_ => (hs_).elim) (fun hs_ => ((Kd.R_types (Kd.R_types (Kd.R_types (HO_6.out) BK464.out (by decide)) BK465.out (by decide)) BK473.out (by decide)).1 k_ hs_.symm).1.1.1))) (fun hn_ => (Nat.le_trans (below_size (bh HB)) hn_)), Or.elim hk_ (fun hs_ => Or.elim hs_ (fun hs_ => hs_.2.1) (fun hs_ => Or.elim hs_ (fun hs_ => (hs_).elim) (fun hs_ => ((Kd.R_types (Kd.R_types (Kd.R_types (HO_6.out) BK464.out (by decide)) BK465.out (by decide)) BK473.out (by decide)).1 k_ hs_.symm).1.1.2))) (fun hn_ => (gFr BK464 k_ hn_)), Or.elim hk_ (fun hs_ => Or.elim hs_ (fun hs_ => hs_.2.2.1) (fun hs_ => Or.elim hs_ (fun hs_ => (hs_).elim) (fun hs_ => ((Kd.R_types (Kd.R_types (Kd.R_types (HO_6.out) BK464.out (by decide)) BK465.out (by decide)) BK473.out (by decide)).1 k_ hs_.symm).1.2))) (fun hn_ => (gFr BK465 k_ hn_)), Or.elim hk_ (fun hs_ => Or.elim hs_ (fun hs_ => hs_.2.2.2) (fun hs_ => Or.elim hs_ (fun hs_ => (hs_).elim) (fun hs_ => ((Kd.R_types (Kd.R_types (Kd.R_types (HO_6.out) BK464.out (by decide)) BK465.out (by decide)) BK473.out (by decide)).1 k_ hs_.symm).2))) (fun hn_ => (gFr BK473 k_ hn_))⟩)) (below_size (bh HB))); replace HO_6 := tRb HO_6 hb; replace BK464 := tBb BK464 hb; replace BK465 := tBb BK465 hb; replace BK473 := tBb BK473 hb; replace HB := tHb HB hb; (try clear hb); (try clear ho0); obtain ⟨z36_0, z36_1, z36_2, y36_0, y36_1, y36_2⟩ := bx3 BK465; obtain ⟨Ao37, co37, eo37⟩ := Kd.V_slice HO480.out; subst eo37))
          go_roundg k3
          case measure => have := HK1.out; have := HK2.out; have := HK3.out; omega
          case rel => exact ⟨(wrap64 (x8_3 + 1)), (t476), (t477), (t478), (.slice Ao37 t478.length co37), fr, H', ⟨by have := HK1.out; have := HK2.out; have := HK3.out; omega⟩, ⟨by (with_reducible repeat (first | apply Kd.R_alloc | apply Kd.R_drewN | apply Kd.R_drew)); exact Kd.R_mono (Kd.R_far (p := ⟨gb465, 2, none⟩) (Kd.R_far (p := ⟨gb465, 1, none⟩) (Kd.R_far (p := ⟨gb465, 0, none⟩) (Kd.R_types HO_6.out BK465.out (by decide)) (fun _ hk => hk.2) (.int .i64 t476)) (fun _ hk => hk.2) (.int .i64 t477)) (fun _ hk => hk.2) (.slice Ao37 t478.length co37)) (fun _ hk => hk.1)⟩, ⟨gV HO480⟩, ⟨gB BK464⟩, ⟨gP BK465 rfl⟩, ⟨bh HB⟩⟩
         rw [if_neg c20] at H
         have c20b0 : ((Int.tmod x4_1 3) == 0) = false := beq_eq_false_iff_ne.mpr c20
         have c20b1 : ((Int.tmod x4_1 3) != 0) = true := bne_iff_ne.mpr c20
         replace H := Option.bind_eq_some_iff.mp H
         obtain ⟨⟨t482, t483, t484, t487⟩, A380, H⟩ := H
         replace H : (F4.l2 k3 a0 x4_1 x6_2 (wrap64 (x8_3 + 1)) t482 t483 t484) = some (r1, r2, r3) := H
         have A38 := am_ A380
         clear A380
         have H' := am_ H
         clear H
         obtain ⟨Ao39, co39, eo39⟩ := Kd.R_slice HO_6.out
         subst eo39
         go_wp2_with (first | ((with_reducible refine gd_ 9 ?_); refine be_ 9 #[.int .i64 0, .int .i64 0, .slice none 0 0, .slice none 0 0, .int .i64 0, .int .i64 0] 35 ?_; intro gb473 hg w40 hbox hb; replace HO_6 := tRb HO_6 hb; replace HO_466002 := tVe HO_466002 hg hb; have BK473 := am_ hbox; have GW473 := tG HB hg; have GE473 := tG HB hg; replace HB := tHb HB hb; have NB464_473 := tL BK464 hg; have NB473_464 := tR BK464 hg; replace BK464 := tBb BK464 hb; have NB465_473 := tL BK465 hg; have NB473_465 := tR BK465 hg; replace BK465 := tBb BK465 hb; clear hb hbox hg; have hnb41 := NB473_464.out; have hnc41 := NB464_473.out; have hnb42 := NB473_465.out; have hnc42 := NB465_473.out; obtain ⟨z43_0, z43_1, z43_2, z43_3, z43_4, z43_5, y43_0, y43_1, y43_2, y43_3, y43_4, y43_5⟩ := bx6 BK473) | ((with_reducible refine gate_store (t := 35) (p := 9) rfl ?_); refine se_ 35 9 ((((((w40.setCell ⟨gb473, 0, none⟩ (.int .i64 x8_3)).setCell ⟨gb473, 1, none⟩ (.int .i64 x4_1)).setCell ⟨gb473, 2, none⟩ (.slice none 0 0)).setCell ⟨gb473, 3, none⟩ (.slice Ao39 x6_2.length co39)).setCell ⟨gb473, 4, none⟩ (.int .i64 0)).setCell ⟨gb473, 5, none⟩ (.int .i64 0)) ?_; intro w44 hw; replace HO_6 : Asc (Kd.R Kd.string 9 w44 w.heap.size (fun k_ => (w.heap.size ≤ k_)) (.slice Ao39 x6_2.length co39) x6_2) := ⟨(by rw [hw]; exact (by (with_reducible repeat (first | apply Kd.R_alloc | apply Kd.R_drewN | apply Kd.R_drew)); exact Kd.R_mono (Kd.R_far (p := ⟨gb473, 5, none⟩) (Kd.R_far (p := ⟨gb473, 4, none⟩) (Kd.R_far (p := ⟨gb473, 3, none⟩) (Kd.R_far (p := ⟨gb473, 2, none⟩) (Kd.R_far (p := ⟨gb473, 1, none⟩) (Kd.R_far (p := ⟨gb473, 0, none⟩) (Kd.R_types HO_6.out BK473.out (by decide)) (fun _ hk => hk.2) (.int .i64 x8_3)) (fun _ hk => hk.2) (.int .i64 x4_1)) (fun _ hk => hk.2) (.slice none 0 0)) (fun _ hk => hk.2) (.slice Ao39 x6_2.length co39)) (fun _ hk => hk.2) (.int .i64 0)) (fun _ hk => hk.2) (.int .i64 0)) (fun _ hk => hk.1)))⟩; replace HO_466002 : Asc (Kd.V k37 37 w44 w.heap.size (fun k_ => (w.heap.size ≤ k_) ∧ k_ ≠ gb464 ∧ k_ ≠ gb465 ∧ k_ ≠ gb473) u466002 x466002_3) := ⟨(by rw [hw]; exact (gV HO_466002))⟩; replace BK464 : Asc (w44.heap[gb464]? = some (.cells #[.int .i64 0, .int .i64 0, .slice none 0 0] 24 (0, 0))) := ⟨(by rw [hw]; exact (gB BK464))⟩; replace BK465 : Asc (w44.heap[gb465]? = some (.cells #[.int .i64 x466000_3, .int .i64 x466001_3, u466002] 24 (0, 0))) := ⟨(by rw [hw]; exact (gB BK465))⟩; replace BK473 : Asc (w44.heap[gb473]? = some (.cells #[.int .i64 x8_3, .int .i64 x4_1, .slice none 0 0, .slice Ao39 x6_2.length co39, .int .i64 0, .int .i64 0] 35 (0, 0))) := ⟨(by rw [hw]; exact (gP BK473 rfl))⟩; replace HB : Asc (Below w.heap.size w w44) := ⟨(by rw [hw]; exact (bh HB))⟩; clear hw; have hnb45 := NB465_464.out; have hnc45 := NB464_465.out; obtain ⟨z46_0, z46_1, z46_2, y46_0, y46_1, y46_2⟩ := bx3 BK465; obtain ⟨z47_0, z47_1, z47_2, z47_3, z47_4, z47_5, y47_0, y47_1, y47_2, y47_3, y47_4, y47_5⟩ := bx6 BK473; obtain ⟨Ao48, co48, eo48⟩ := Kd.V_slice HO_466002.out; subst eo48) | ((with_reducible refine gate_callee (f := 65) rfl ?_); refine gl_ (some 52) Try.func65 #[.agg #[.int .i64 x466000_3, .int .i64 x466001_3, .slice Ao48 x466002_3.length co48], .agg #[.int .i64 x8_3, .int .i64 x4_1, .slice none 0 0, .slice Ao39 x6_2.length co39, .int .i64 0, .int .i64 0]] ?_; (refine (Fg.calls k3 x466000_3 x466001_3 (fun k_ => ((w.heap.size ≤ k_) ∧ (k_ ≠ gb464 ∧ (k_ ≠ gb465 ∧ k_ ≠ gb473)))) _ _ x466002_3 x8_3 x4_1 (fun k_ => False) _ _ ([] : List (S129)) (fun k_ => some k_ = (.slice Ao39 x6_2.length co39 : Value).ownBlock) _ _ x6_2 0 0 t482 t483 t484 t487 _ ?side1 ?side2 ?side3 A38.out).mono ?_); (case side1 => exact HO_466002.out); (case side2 => exact Kd.V_nil _ _ _ _ _); (case side3 => exact Kd.R_V (Kd.R_tight rfl (Kd.R_types (Kd.R_types (Kd.R_types (HO_6.out) BK464.out (by decide)) BK465.out (by decide)) BK473.out (by decide)))); rintro e w49 ⟨v485, rfl, ho0, hb⟩; refine ⟨_, rfl, ?_⟩; replace HO_466002 := tVb HO_466002 hb; have HO486 := am_ (Kd.V_lower (Kd.V_mono (ok' := fun k_ => (w.heap.size ≤ k_) ∧ k_ ≠ gb464 ∧ k_ ≠ gb465 ∧ k_ ≠ gb473) ho0 (fun k_ hk_ => ⟨Or.elim hk_ (fun hs_ => Or.elim hs_ (fun hs_ => hs_.1) (fun hs_ => Or.elim hs_ (fun hs_ => (hs_).elim) (fun hs_ => ((Kd.R_types (Kd.R_types (Kd.R_types (HO_6.out) BK464.out (by decide)) BK465.out (by decide)) BK473.out (by decide)).1 k_ hs_.symm).1.1.1))) (fun hn_ => (Nat.le_trans (below_size (bh HB)) hn_)), Or.elim hk_ (fun hs_ => Or.elim hs_ (fun hs_ => hs_.2.1) (fun hs_ => Or.elim hs_ (fun hs_ => (hs_).elim) (fun hs_ => ((Kd.R_types (Kd.R_types (Kd.R_types (HO_6.out) BK464.out (by decide)) BK465.out (by decide)) BK473.out (by decide)).1 k_ hs_.symm).1.1.2))) (fun hn_ => (gFr BK464 k_ hn_)), Or.elim hk_ (fun hs_ => Or.elim hs_ (fun hs_ => hs_.2.2.1) (fun hs_ => Or.elim hs_ (fun hs_ => (hs_).elim) (fun hs_ => ((Kd.R_types (Kd.R_types (Kd.R_types (HO_6.out) BK464.out (by decide)) BK465.out (by decide)) BK473.out (by decide)).1 k_ hs_.symm).1.2))) (fun hn_ => (gFr BK465 k_ hn_)), Or.elim hk_ (fun hs_ => Or.elim hs_ (fun hs_ => hs_.2.2.2) (fun hs_ => Or.elim hs_ (fun hs_ => (hs_).elim) (fun hs_ => ((Kd.R_types (Kd.R_types (Kd.R_types (HO_6.out) BK464.out (by decide)) BK465.out (by decide)) BK473.out (by decide)).1 k_ hs_.symm).2))) (fun hn_ => (gFr BK473 k_ hn_))⟩)) (below_size (bh HB))); replace HO_6 := tRb HO_6 hb; replace BK464 := tBb BK464 hb; replace BK465 := tBb BK465 hb; replace BK473 := tBb BK473 hb; replace HB := tHb HB hb; (try clear hb); (try clear ho0); obtain ⟨z50_0, z50_1, z50_2, y50_0, y50_1, y50_2⟩ := bx3 BK465; obtain ⟨Ao51, co51, eo51⟩ := Kd.V_slice HO486.out; subst eo51))
         go_roundg k3
         case measure => have := HK1.out; have := HK2.out; have := HK3.out; omega
         case rel => exact ⟨(wrap64 (x8_3 + 1)), (t482), (t483), (t484), (.slice Ao51 t484.length co51), fr, H', ⟨by have := HK1.out; have := HK2.out; have := HK3.out; omega⟩, ⟨by (with_reducible repeat (first | apply Kd.R_alloc | apply Kd.R_drewN | apply Kd.R_drew)); exact Kd.R_mono (Kd.R_far (p := ⟨gb465, 2, none⟩) (Kd.R_far (p := ⟨gb465, 1, none⟩) (Kd.R_far (p := ⟨gb465, 0, none⟩) (Kd.R_types HO_6.out BK465.out (by decide)) (fun _ hk => hk.2) (.int .i64 t482)) (fun _ hk => hk.2) (.int .i64 t483)) (fun _ hk => hk.2) (.slice Ao51 t484.length co51)) (fun _ hk => hk.1)⟩, ⟨gV HO486⟩, ⟨gB BK464⟩, ⟨gP BK465 rfl⟩, ⟨bh HB⟩⟩
        rw [if_neg c19] at H
        have c19b0 : decide (x8_3 ≤ 4) = false := decide_eq_false c19
        clear c19
        have H' := am_ H
        clear H
        go_wp2
        go_roundg k3
        case measure => have := HK1.out; have := HK2.out; have := HK3.out; omega
        case rel => exact ⟨(wrap64 (x4_1 + 1)), (x466000_3), (x466001_3), (x466002_3), (u466002), fr, H', ⟨by have := HK1.out; have := HK2.out; have := HK3.out; omega⟩, ⟨hV HO_466002⟩, ⟨gB BK464⟩, ⟨gB BK465⟩, ⟨bh HB⟩⟩
   rw [if_neg c6] at H
   have c6b0 : decide (x4_1 ≤ a0) = false := decide_eq_false c6
   clear c6
   simp only [Option.some.injEq, Prod.mk.injEq] at H
   obtain ⟨rfl, rfl, rfl⟩ := H
   have hnb52 := NB465_464.out
   have hnc52 := NB464_465.out
   obtain ⟨z53_0, z53_1, z53_2, y53_0, y53_1, y53_2⟩ := bx3 BK465
   obtain ⟨z54_0, z54_1, z54_2, y54_0, y54_1, y54_2⟩ := bx3 BK464
   obtain ⟨Ao55, co55, eo55⟩ := Kd.V_slice HO_466002.out
   subst eo55
   go_wp2
   refine bodyPost_ret (results_cell_row rfl _ _ gb464 24 #[.int .i64 x466000_1, .int .i64 x466001_1, .slice Ao55 x466002_1.length co55] (0, 0) _ rfl (gP BK464 rfl) Try.underlying24 rfl (by kernel_rfl)) rfl ?_
   exact ⟨_, fe, gV HO_466002, bh HB⟩

def Gd.f (k : Nat)  : Option (Bool) := (F4.f k 3).bind fun bt488 => ((F1.f k bt488.1 bt488.2.1 bt488.2.2 0).bind fun bt493 => (if (bt493.1.length : Int) = 1 then (some (bt493.2 == 1)) else (some false)))
set_option maxHeartbeats 8000000 in
set_option maxRecDepth 100000 in
theorem Gd.calls (k : Nat)  (r : Bool) (w : World) (h : Gd.f k  = some r) :
  Calls Try.prog 10 #[] w fun e w' => e = .returned (.bool r) ∧ Below w.heap.size w w' := by
 have HB := am_ (Below.refl w.heap.size w)
 have H : ((F4.f k 3).bind fun bt488 => ((F1.f k bt488.1 bt488.2.1 bt488.2.2 0).bind fun bt493 => (if (bt493.1.length : Int) = 1 then (some (bt493.2 == 1)) else (some false)))) = some r := h
 clear h
 replace H := Option.bind_eq_some_iff.mp H
 obtain ⟨⟨t488, t489, t490⟩, A10, H⟩ := H
 replace H : ((F1.f k t488 t489 t490 0).bind fun bt493 => (if (bt493.1.length : Int) = 1 then (some (bt493.2 == 1)) else (some false))) = some r := H
 have A1 := am_ A10
 clear A10
 replace H := Option.bind_eq_some_iff.mp H
 obtain ⟨⟨t493, t496⟩, A20, H⟩ := H
 replace H : (if (t493.length : Int) = 1 then (some (t496 == 1)) else (some false)) = some r := H
 have A2 := am_ A20
 clear A20
 by_cases c3 : (t493.length : Int) = 1
 ·
  rw [if_pos c3] at H
  have c3b0 : ((t493.length : Int) == 1) = true := beq_iff_eq.mpr c3
  have c3b1 : ((t493.length : Int) != 1) = false := bne_eq_false_iff_eq.mpr c3
  clear c3
  obtain rfl := Option.some.inj H
  go_enter Try.func10, Try.ntmps10
  go_wp2_with (first | ((with_reducible refine gate_callee (f := 33) rfl ?_); refine gl_ (some 4) Try.func33 #[.int .i64 3] ?_; (with_reducible refine (F4.calls k 3 t488 t489 t490 _ A1.out).mono ?_); rintro e w4 ⟨v491, rfl, ho0, hb⟩; refine ⟨_, rfl, ?_⟩; have HO492 := am_ (Kd.V_lower (Kd.V_mono (ok' := fun k_ => True) ho0 (fun k_ hk_ => trivial)) (below_size (bh HB))); replace HB := tHb HB hb; (try clear hb); (try clear ho0); obtain ⟨Ao5, co5, eo5⟩ := Kd.V_slice HO492.out; subst eo5) | ((with_reducible refine gate_callee (f := 13) rfl ?_); refine gl_ (some 5) Try.func13 #[.agg #[.int .i64 t488, .int .i64 t489, .slice Ao5 t490.length co5], .int .i64 0] ?_; (with_reducible refine (F1.calls k t488 t489 (fun k_ => True) _ _ t490 0 t493 t496 _ ?side1 A2.out).mono ?_); (case side1 => exact HO492.out); rintro e w6 ⟨v494, rfl, ho0, hb⟩; refine ⟨_, rfl, ?_⟩; replace HO492 := am_ (Kd.V_elder' (hV HO492) (Kd.N_base ho0) hb); have HO495 := am_ (Kd.N_lower (Kd.N_mono (ok' := fun k_ => True) ho0 (fun k_ hk_ => trivial)) (below_size (bh HB))); replace HB := tHb HB hb; (try clear hb); (try clear ho0); obtain ⟨Ao7, co7, eo7⟩ := Kd.N_slice HO495.out; subst eo7))
  go_ret
  exact ⟨fe, bh HB⟩
 rw [if_neg c3] at H
 have c3b0 : ((t493.length : Int) == 1) = false := beq_eq_false_iff_ne.mpr c3
 have c3b1 : ((t493.length : Int) != 1) = true := bne_iff_ne.mpr c3
 obtain rfl := Option.some.inj H
 go_enter Try.func10, Try.ntmps10
 go_wp2_with (first | ((with_reducible refine gate_callee (f := 33) rfl ?_); refine gl_ (some 4) Try.func33 #[.int .i64 3] ?_; (with_reducible refine (F4.calls k 3 t488 t489 t490 _ A1.out).mono ?_); rintro e w8 ⟨v491, rfl, ho0, hb⟩; refine ⟨_, rfl, ?_⟩; have HO492 := am_ (Kd.V_lower (Kd.V_mono (ok' := fun k_ => True) ho0 (fun k_ hk_ => trivial)) (below_size (bh HB))); replace HB := tHb HB hb; (try clear hb); (try clear ho0); obtain ⟨Ao9, co9, eo9⟩ := Kd.V_slice HO492.out; subst eo9) | ((with_reducible refine gate_callee (f := 13) rfl ?_); refine gl_ (some 5) Try.func13 #[.agg #[.int .i64 t488, .int .i64 t489, .slice Ao9 t490.length co9], .int .i64 0] ?_; (with_reducible refine (F1.calls k t488 t489 (fun k_ => True) _ _ t490 0 t493 t496 _ ?side1 A2.out).mono ?_); (case side1 => exact HO492.out); rintro e w10 ⟨v494, rfl, ho0, hb⟩; refine ⟨_, rfl, ?_⟩; replace HO492 := am_ (Kd.V_elder' (hV HO492) (Kd.N_base ho0) hb); have HO495 := am_ (Kd.N_lower (Kd.N_mono (ok' := fun k_ => True) ho0 (fun k_ hk_ => trivial)) (below_size (bh HB))); replace HB := tHb HB hb; (try clear hb); (try clear ho0); obtain ⟨Ao11, co11, eo11⟩ := Kd.N_slice HO495.out; subst eo11))
 go_ret
 exact ⟨fe, bh HB⟩

def Fu.l0 : Nat → Int → Int → Int → List (S37) → Option (Bool)
 | 0, _, _, _, _ => none
 | k + 1, x3, x498000, x498001, x498002 => if x3 < (x498002.length : Int) then (if 0 ≤ x3 then (if ((rd_T37 x498002 x3).f1.f1) > 60 then (some false) else (Fu.l0 k (wrap64 (x3 + 1)) x498000 x498001 x498002)) else (none)) else (some (decide ((x498002.length : Int) ≤ 60)))
def Fu.f (k : Nat) (a0_0 : Int) (a0_1 : Int) (l0_2 : List (S37)) : Option (Bool) := Fu.l0 k 0 a0_0 a0_1 l0_2
set_option maxHeartbeats 8000000 in
set_option maxRecDepth 100000 in
theorem Fu.calls (k : Nat) (a0_0 : Int) (a0_1 : Int) (A0_2 : Option Addr) (c0_2 : Nat) (l0_2 : List (S37)) (r : Bool) (w : World) (hr0_2 : Kd.C k37 w A0_2 l0_2.length l0_2) (hc0_2 : l0_2.length ≤ c0_2) (h : Fu.f k a0_0 a0_1 l0_2 = some r) :
  Calls Try.prog 11 #[.agg #[.int .i64 a0_0, .int .i64 a0_1, .slice A0_2 l0_2.length c0_2]] w fun e w' => e = .returned (.bool r) ∧ Below w.heap.size w w' := by
 have hu24 := Try.underlying24
 have HR0_2 := am_ hr0_2
 have HC0_2 := am_ hc0_2
 clear hr0_2 hc0_2
 have HB := am_ (Below.refl w.heap.size w)
 have H : (Fu.l0 k 0 a0_0 a0_1 l0_2) = some r := h
 clear h
 have H' := am_ H
 clear H
 go_enter Try.func11, Try.ntmps11
 go_wp2_with (first | ((with_reducible refine gd_ 1 ?_); refine be_ 1 #[.int .i64 a0_0, .int .i64 a0_1, .slice A0_2 l0_2.length c0_2] 24 ?_; intro gb497 hg w2 hbox hb; have BK497 := am_ hbox; have GW497 := tG HB hg; have GE497 := tG HB hg; replace HB := tHb HB hb; clear hb hbox hg))
 go_loopg [3] k (fun kq v3 w' => ∃ (x3_1 : Int), v3 = .int .i64 x3_1 ∧ Asc (Fu.l0 kq x3_1 a0_0 a0_1 l0_2 = some r) ∧ Asc (kq ≤ k) ∧ Asc (w'.heap[gb497]? = some (.cells #[.int .i64 a0_0, .int .i64 a0_1, (.slice A0_2 l0_2.length c0_2)] 24 (0, 0))) ∧ Asc (Below w.heap.size w w'))
 case atStart => exact ⟨(0), fr, H', ⟨Nat.le_refl _⟩, ⟨gB BK497⟩, ⟨bh HB⟩⟩
 case round =>
  clear H'
  obtain ⟨x3_1, rfl, HA, HK1, BK497, HB⟩ := hrel
  cases gk with
  | zero => exact absurd HA.out (by simp [Fu.l0])
  | succ k1 =>
   have H := HA.out
   clear HA
   simp only [Fu.l0] at H
   by_cases c3 : x3_1 < (l0_2.length : Int)
   ·
    rw [if_pos c3] at H
    have c3b0 : decide (x3_1 < (l0_2.length : Int)) = true := decide_eq_true c3
    clear c3
    revert H
    refine gi (fun c4b0 H => ?_)
    by_cases c5 : ((rd_T37 l0_2 x3_1).f1.f1) > 60
    ·
     rw [if_pos c5] at H
     have c5b0 : decide (60 < ((rd_T37 l0_2 x3_1).f1.f1)) = true := decide_eq_true c5
     clear c5
     obtain rfl := Option.some.inj H
     obtain ⟨z6_0, z6_1, z6_2, y6_0, y6_1, y6_2⟩ := bx3 BK497
     have p498 : 0 ≤ (x3_1 : Int) := dt
     have q498 : x3_1 < (l0_2.length : Int) := dt
     obtain ⟨ad498, A498_3, c498_3, A498_4, c498_4, e498, hx498_0, hx498_1, hx498_2, hx498_3, hx498_4, hx498_5, hx498_6, hl498_3, hi498_3, hl498_4, hi498_4⟩ := at_T37 HR0_2.out x3_1 p498 q498
     cases e498
     replace hx498_0 := ce HB hx498_0
     replace hx498_1 := ce HB hx498_1
     replace hx498_2 := ce HB hx498_2
     replace hx498_3 := ce HB hx498_3
     replace hx498_4 := ce HB hx498_4
     replace hx498_5 := ce HB hx498_5
     replace hx498_6 := ce HB hx498_6
     have HR498_3 := am_ hi498_3
     have HC498_3 := am_ hl498_3
     clear hi498_3 hl498_3
     have HR498_4 := am_ hi498_4
     have HC498_4 := am_ hl498_4
     clear hi498_4 hl498_4
     replace p498 := eq_true p498
     replace q498 := eq_true q498
     go_wp2
     go_ret
     exact ⟨fe, bh HB⟩
    rw [if_neg c5] at H
    have c5b0 : decide (60 < ((rd_T37 l0_2 x3_1).f1.f1)) = false := decide_eq_false c5
    clear c5
    have H' := am_ H
    clear H
    obtain ⟨z7_0, z7_1, z7_2, y7_0, y7_1, y7_2⟩ := bx3 BK497
    have p498 : 0 ≤ (x3_1 : Int) := dt
    have q498 : x3_1 < (l0_2.length : Int) := dt
    obtain ⟨ad498, A498_3, c498_3, A498_4, c498_4, e498, hx498_0, hx498_1, hx498_2, hx498_3, hx498_4, hx498_5, hx498_6, hl498_3, hi498_3, hl498_4, hi498_4⟩ := at_T37 HR0_2.out x3_1 p498 q498
    cases e498
    replace hx498_0 := ce HB hx498_0
    replace hx498_1 := ce HB hx498_1
    replace hx498_2 := ce HB hx498_2
    replace hx498_3 := ce HB hx498_3
    replace hx498_4 := ce HB hx498_4
    replace hx498_5 := ce HB hx498_5
    replace hx498_6 := ce HB hx498_6
    have HR498_3 := am_ hi498_3
    have HC498_3 := am_ hl498_3
    clear hi498_3 hl498_3
    have HR498_4 := am_ hi498_4
    have HC498_4 := am_ hl498_4
    clear hi498_4 hl498_4
    replace p498 := eq_true p498
    replace q498 := eq_true q498
    go_wp2
    go_roundg k1
    case measure => have := HK1.out; omega
    case rel => exact ⟨(wrap64 (x3_1 + 1)), fr, H', kS HK1, ⟨gB BK497⟩, ⟨bh HB⟩⟩
   rw [if_neg c3] at H
   have c3b0 : decide (x3_1 < (l0_2.length : Int)) = false := decide_eq_false c3
   clear c3
   obtain rfl := Option.some.inj H
   obtain ⟨z8_0, z8_1, z8_2, y8_0, y8_1, y8_2⟩ := bx3 BK497
   go_wp2
   go_ret
   exact ⟨fe, bh HB⟩

mutual
def Fi.l0 : Nat → Int → Int → Int → List (S37) → Option (Bool)
 | 0, _, _, _, _ => none
 | k + 1, x3, x500000, x500001, x500002 => if x3 < (x500002.length : Int) then (Fi.l1 k x3 0 x500000 x500001 x500002) else (some true)
def Fi.l1 : Nat → Int → Int → Int → Int → List (S37) → Option (Bool)
 | 0, _, _, _, _, _ => none
 | k + 1, x3, x4, x500000, x500001, x500002 => if x4 < x3 then (if 0 ≤ x3 then (if x3 < (x500002.length : Int) then (if 0 ≤ x4 then (if x4 < (x500002.length : Int) then (if ((rd_T37 x500002 x3).f0).toList = ((rd_T37 x500002 x4).f0).toList then (some false) else (Fi.l1 k x3 (wrap64 (x4 + 1)) x500000 x500001 x500002)) else (none)) else (none)) else (none)) else (none)) else (Fi.l0 k (wrap64 (x3 + 1)) x500000 x500001 x500002)
end
def Fi.f (k : Nat) (a0_0 : Int) (a0_1 : Int) (l0_2 : List (S37)) : Option (Bool) := Fi.l0 k 0 a0_0 a0_1 l0_2
set_option maxHeartbeats 8000000 in
set_option maxRecDepth 100000 in
theorem Fi.calls (k : Nat) (a0_0 : Int) (a0_1 : Int) (A0_2 : Option Addr) (c0_2 : Nat) (l0_2 : List (S37)) (r : Bool) (w : World) (hr0_2 : Kd.C k37 w A0_2 l0_2.length l0_2) (hc0_2 : l0_2.length ≤ c0_2) (h : Fi.f k a0_0 a0_1 l0_2 = some r) :
  Calls Try.prog 12 #[.agg #[.int .i64 a0_0, .int .i64 a0_1, .slice A0_2 l0_2.length c0_2]] w fun e w' => e = .returned (.bool r) ∧ Below w.heap.size w w' := by
 have hu24 := Try.underlying24
 have HR0_2 := am_ hr0_2
 have HC0_2 := am_ hc0_2
 clear hr0_2 hc0_2
 have HB := am_ (Below.refl w.heap.size w)
 have H : (Fi.l0 k 0 a0_0 a0_1 l0_2) = some r := h
 clear h
 have H' := am_ H
 clear H
 go_enter Try.func12, Try.ntmps12
 go_wp2_with (first | ((with_reducible refine gd_ 1 ?_); refine be_ 1 #[.int .i64 a0_0, .int .i64 a0_1, .slice A0_2 l0_2.length c0_2] 24 ?_; intro gb499 hg w2 hbox hb; have BK499 := am_ hbox; have GW499 := tG HB hg; have GE499 := tG HB hg; replace HB := tHb HB hb; clear hb hbox hg))
 (try simp only [Act.put, List.setIfInBounds_toArray, List.set_cons_zero, List.set_cons_succ])
 repeat (go_quiet (first | ((with_reducible refine gd_ 1 ?_); refine be_ 1 #[.int .i64 a0_0, .int .i64 a0_1, .slice A0_2 l0_2.length c0_2] 24 ?_; intro gb499 hg w2 hbox hb; have BK499 := am_ hbox; have GW499 := tG HB hg; have GE499 := tG HB hg; replace HB := tHb HB hb; clear hb hbox hg)); try go_wp2_with (first | ((with_reducible refine gd_ 1 ?_); refine be_ 1 #[.int .i64 a0_0, .int .i64 a0_1, .slice A0_2 l0_2.length c0_2] 24 ?_; intro gb499 hg w2 hbox hb; have BK499 := am_ hbox; have GW499 := tG HB hg; have GE499 := tG HB hg; replace HB := tHb HB hb; clear hb hbox hg)))
 go_loopg [3] k (fun kq v3 w' => ∃ (x3_1 : Int), v3 = .int .i64 x3_1 ∧ Asc (Fi.l0 kq x3_1 a0_0 a0_1 l0_2 = some r) ∧ Asc (kq ≤ k) ∧ Asc (w'.heap[gb499]? = some (.cells #[.int .i64 a0_0, .int .i64 a0_1, (.slice A0_2 l0_2.length c0_2)] 24 (0, 0))) ∧ Asc (Below w.heap.size w w'))
 case atStart => exact ⟨(0), fr, H', ⟨Nat.le_refl _⟩, ⟨gB BK499⟩, ⟨bh HB⟩⟩
 case round =>
  clear H'
  obtain ⟨x3_1, rfl, HA, HK1, BK499, HB⟩ := hrel
  cases gk with
  | zero => exact absurd HA.out (by simp [Fi.l0])
  | succ k1 =>
   have H := HA.out
   clear HA
   simp only [Fi.l0] at H
   by_cases c3 : x3_1 < (l0_2.length : Int)
   ·
    rw [if_pos c3] at H
    have c3b0 : decide (x3_1 < (l0_2.length : Int)) = true := decide_eq_true c3
    clear c3
    have H' := am_ H
    clear H
    obtain ⟨z4_0, z4_1, z4_2, y4_0, y4_1, y4_2⟩ := bx3 BK499
    go_wp2
    repeat (go_quiet (fail); try go_wp2)
    go_loopg [4] k1 (fun kq v4 w' => ∃ (x4_2 : Int), v4 = .int .i64 x4_2 ∧ Asc (Fi.l1 kq x3_1 x4_2 a0_0 a0_1 l0_2 = some r) ∧ Asc (kq ≤ k1) ∧ Asc (w'.heap[gb499]? = some (.cells #[.int .i64 a0_0, .int .i64 a0_1, (.slice A0_2 l0_2.length c0_2)] 24 (0, 0))) ∧ Asc (Below w.heap.size w w'))
    case atStart => exact ⟨(0), fr, H', ⟨Nat.le_refl _⟩, ⟨gB BK499⟩, ⟨bh HB⟩⟩
    case round =>
     clear H'
     try clear c3b0 z4_0 z4_1 z4_2 y4_0 y4_1 y4_2
     obtain ⟨x4_2, rfl, HA, HK2, BK499, HB⟩ := hrel
     cases gk with
     | zero => exact absurd HA.out (by simp [Fi.l1])
     | succ k2 =>
      have H := HA.out
      clear HA
      simp only [Fi.l1] at H
      by_cases c5 : x4_2 < x3_1
      ·
       rw [if_pos c5] at H
       have c5b0 : decide (x4_2 < x3_1) = true := decide_eq_true c5
       clear c5
       revert H
       refine gi (fun c6b0 H => ?_)
       revert H
       refine gi (fun c7b0 H => ?_)
       revert H
       refine gi (fun c8b0 H => ?_)
       revert H
       refine gi (fun c9b0 H => ?_)
       by_cases c10 : ((rd_T37 l0_2 x3_1).f0).toList = ((rd_T37 l0_2 x4_2).f0).toList
       ·
        rw [if_pos c10] at H
        have c10b0 : (((rd_T37 l0_2 x3_1).f0).toList == ((rd_T37 l0_2 x4_2).f0).toList) = true := beq_iff_eq.mpr c10
        have c10b1 : (((rd_T37 l0_2 x3_1).f0).toList != ((rd_T37 l0_2 x4_2).f0).toList) = false := bne_eq_false_iff_eq.mpr c10
        clear c10
        obtain rfl := Option.some.inj H
        obtain ⟨z11_0, z11_1, z11_2, y11_0, y11_1, y11_2⟩ := bx3 BK499
        have p500 : 0 ≤ (x3_1 : Int) := dt
        have q500 : x3_1 < (l0_2.length : Int) := dt
        obtain ⟨ad500, A500_3, c500_3, A500_4, c500_4, e500, hx500_0, hx500_1, hx500_2, hx500_3, hx500_4, hx500_5, hx500_6, hl500_3, hi500_3, hl500_4, hi500_4⟩ := at_T37 HR0_2.out x3_1 p500 q500
        cases e500
        replace hx500_0 := ce HB hx500_0
        replace hx500_1 := ce HB hx500_1
        replace hx500_2 := ce HB hx500_2
        replace hx500_3 := ce HB hx500_3
        replace hx500_4 := ce HB hx500_4
        replace hx500_5 := ce HB hx500_5
        replace hx500_6 := ce HB hx500_6
        have HR500_3 := am_ hi500_3
        have HC500_3 := am_ hl500_3
        clear hi500_3 hl500_3
        have HR500_4 := am_ hi500_4
        have HC500_4 := am_ hl500_4
        clear hi500_4 hl500_4
        replace p500 := eq_true p500
        replace q500 := eq_true q500
        have p501 : 0 ≤ (x4_2 : Int) := dt
        have q501 : x4_2 < (l0_2.length : Int) := dt
        obtain ⟨ad501, A501_3, c501_3, A501_4, c501_4, e501, hx501_0, hx501_1, hx501_2, hx501_3, hx501_4, hx501_5, hx501_6, hl501_3, hi501_3, hl501_4, hi501_4⟩ := at_T37 HR0_2.out x4_2 p501 q501
        obtain rfl : ad500 = ad501 := (by injection e501)
        replace hx501_0 := ce HB hx501_0
        replace hx501_1 := ce HB hx501_1
        replace hx501_2 := ce HB hx501_2
        replace hx501_3 := ce HB hx501_3
        replace hx501_4 := ce HB hx501_4
        replace hx501_5 := ce HB hx501_5
        replace hx501_6 := ce HB hx501_6
        have HR501_3 := am_ hi501_3
        have HC501_3 := am_ hl501_3
        clear hi501_3 hl501_3
        have HR501_4 := am_ hi501_4
        have HC501_4 := am_ hl501_4
        clear hi501_4 hl501_4
        replace p501 := eq_true p501
        replace q501 := eq_true q501
        go_wp2
        repeat (go_quiet (fail); try go_wp2)
        go_ret
        exact ⟨fe, bh HB⟩
       rw [if_neg c10] at H
       have c10b0 : (((rd_T37 l0_2 x3_1).f0).toList == ((rd_T37 l0_2 x4_2).f0).toList) = false := beq_eq_false_iff_ne.mpr c10
       have c10b1 : (((rd_T37 l0_2 x3_1).f0).toList != ((rd_T37 l0_2 x4_2).f0).toList) = true := bne_iff_ne.mpr c10
       have H' := am_ H
       clear H
       obtain ⟨z12_0, z12_1, z12_2, y12_0, y12_1, y12_2⟩ := bx3 BK499
       have p500 : 0 ≤ (x3_1 : Int) := dt
       have q500 : x3_1 < (l0_2.length : Int) := dt
       obtain ⟨ad500, A500_3, c500_3, A500_4, c500_4, e500, hx500_0, hx500_1, hx500_2, hx500_3, hx500_4, hx500_5, hx500_6, hl500_3, hi500_3, hl500_4, hi500_4⟩ := at_T37 HR0_2.out x3_1 p500 q500
       cases e500
       replace hx500_0 := ce HB hx500_0
       replace hx500_1 := ce HB hx500_1
       replace hx500_2 := ce HB hx500_2
       replace hx500_3 := ce HB hx500_3
       replace hx500_4 := ce HB hx500_4
       replace hx500_5 := ce HB hx500_5
       replace hx500_6 := ce HB hx500_6
       have HR500_3 := am_ hi500_3
       have HC500_3 := am_ hl500_3
       clear hi500_3 hl500_3
       have HR500_4 := am_ hi500_4
       have HC500_4 := am_ hl500_4
       clear hi500_4 hl500_4
       replace p500 := eq_true p500
       replace q500 := eq_true q500
       have p501 : 0 ≤ (x4_2 : Int) := dt
       have q501 : x4_2 < (l0_2.length : Int) := dt
       obtain ⟨ad501, A501_3, c501_3, A501_4, c501_4, e501, hx501_0, hx501_1, hx501_2, hx501_3, hx501_4, hx501_5, hx501_6, hl501_3, hi501_3, hl501_4, hi501_4⟩ := at_T37 HR0_2.out x4_2 p501 q501
       obtain rfl : ad500 = ad501 := (by injection e501)
       replace hx501_0 := ce HB hx501_0
       replace hx501_1 := ce HB hx501_1
       replace hx501_2 := ce HB hx501_2
       replace hx501_3 := ce HB hx501_3
       replace hx501_4 := ce HB hx501_4
       replace hx501_5 := ce HB hx501_5
       replace hx501_6 := ce HB hx501_6
       have HR501_3 := am_ hi501_3
       have HC501_3 := am_ hl501_3
       clear hi501_3 hl501_3
       have HR501_4 := am_ hi501_4
       have HC501_4 := am_ hl501_4
       clear hi501_4 hl501_4
       replace p501 := eq_true p501
       replace q501 := eq_true q501
       go_wp2
       repeat (go_quiet (fail); try go_wp2)
       go_roundg k2
       case measure => have := HK1.out; have := HK2.out; omega
       case rel => exact ⟨(wrap64 (x4_2 + 1)), fr, H', ⟨by have := HK1.out; have := HK2.out; omega⟩, ⟨gB BK499⟩, ⟨bh HB⟩⟩
      rw [if_neg c5] at H
      have c5b0 : decide (x4_2 < x3_1) = false := decide_eq_false c5
      clear c5
      have H' := am_ H
      clear H
      go_wp2
      repeat (go_quiet (fail); try go_wp2)
      go_roundg k2
      case measure => have := HK1.out; have := HK2.out; omega
      case rel => exact ⟨(wrap64 (x3_1 + 1)), fr, H', ⟨by have := HK1.out; have := HK2.out; omega⟩, ⟨gB BK499⟩, ⟨bh HB⟩⟩
   rw [if_neg c3] at H
   have c3b0 : decide (x3_1 < (l0_2.length : Int)) = false := decide_eq_false c3
   clear c3
   obtain rfl := Option.some.inj H
   obtain ⟨z13_0, z13_1, z13_2, y13_0, y13_1, y13_2⟩ := bx3 BK499
   go_wp2
   repeat (go_quiet (fail); try go_wp2)
   go_ret
   exact ⟨fe, bh HB⟩

end Go.Proofs.Ytcbfnmabckjijaa.PTuskStops
