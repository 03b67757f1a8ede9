-- written by a program of this session (pp.py), out of the kit's print and this session's contracts
import Derived.Test.YtcbfnmabckjijaaPTuskStopsx0
import Derived.Test.YtcbfnmabckjijaaPTuskStopsx2
import Derived.Test.YtcbfnmabckjijaaVTuskStopsPh
namespace Go.Proofs.Ytcbfnmabckjijaa.PTuskStops
open Go.RowKit Go.Proofs.YtcbfnmabckjijaaW.PrintWords Go.Proofs.YtcbfnmabckjijaaW.PrintLast Go.Proofs.YtcbfnmabckjijaaW.PrintMore
set_option linter.unusedVariables false
set_option linter.unusedSimpArgs false
attribute [local go_sem] max2_int max_two

def Fo.l0 : Nat → List (S111) → Int → Int → Int → Int → Int → Int → Int → Option (Int × Int)
 | 0, _, _, _, _, _, _, _, _ => none
 | k + 1, x0, x1, x19, x20, x117000, x117001, x119000, x119001 => if x20 < x19 then (if x20 = x1 then (Fo.l0 k x0 x1 x19 (wrap64 (x20 + 1)) x117000 x117001 x119000 x119001) else (if 0 ≤ x20 then (if x20 < (x0.length : Int) then ((Gn.f ((rd_T111 x0 x20).f0) 0 x119000 x119001).bind fun bt121 => ((Ge.f bt121.1 bt121.2).bind fun bt123 => ((G6.f ((rd_T111 x0 x20).f0) 0 bt123.1 bt123.2.1).bind fun bt127 => ((G6.f x117000 x117001 bt127.1 bt127.2).bind fun bt129 => (Fo.l0 k x0 x1 x19 (wrap64 (x20 + 1)) bt129.1 bt129.2 x119000 x119001))))) else (none)) else (none))) else (some (x117000, x117001))
def Fo.f (k : Nat) (l0 : List (S111)) (a1 : Int) : Option (Int × Int) := if 0 ≤ a1 then (if a1 < (l0.length : Int) then (Fo.l0 k l0 a1 (l0.length : Int) 0 1 0 ((rd_T111 l0 a1).f0) 0) else (none)) else (none)
theorem Fo.mono_l : ∀ k, (∀ y0 y1 y2 y3 y4 y5 y6 y7, LeO (Fo.l0 k y0 y1 y2 y3 y4 y5 y6 y7) (Fo.l0 (k + 1) y0 y1 y2 y3 y4 y5 y6 y7))
 | 0 => fun _ _ _ _ _ _ _ _ r h => by simp [Fo.l0] at h
 | k + 1 => by
  have ih0 := Fo.mono_l k
  ·
   intro y0 y1 y2 y3 y4 y5 y6 y7
   unfold Fo.l0
   repeat' first | (with_reducible first | exact ih0 _ _ _ _ _ _ _ _ | exact LeO.refl _ | exact LeO.none _ | refine LeO.ite ?_ ?_ | refine LeO.bind ?_ (fun _ => ?_)) | exact ih0 _ _ _ _ _ _ _ _ | refine LeO.ite ?_ ?_ | refine LeO.bind ?_ (fun _ => ?_)
set_option maxHeartbeats 8000000 in
set_option maxRecDepth 100000 in
theorem Fo.calls (k : Nat) (A0 : Option Addr) (c0 : Nat) (l0 : List (S111)) (a1 : Int) (r1 : Int) (r2 : Int) (w : World) (hr0 : Kd.C k111 w A0 l0.length l0) (hc0 : l0.length ≤ c0) (h : Fo.f k l0 a1 = some (r1, r2)) :
  Calls Try.prog 121 #[.slice A0 l0.length c0, .int .i64 a1] w fun e w' => e = .returned (.agg #[.int .i64 r1, .int .i64 r2]) ∧ Below w.heap.size w w' := by
 have hu33 := Try.underlying33
 have HR0 := am_ hr0
 have HC0 := am_ hc0
 clear hr0 hc0
 have HB := am_ (Below.refl w.heap.size w)
 have H : (if 0 ≤ a1 then (if a1 < (l0.length : Int) then (Fo.l0 k l0 a1 (l0.length : Int) 0 1 0 ((rd_T111 l0 a1).f0) 0) else (none)) else (none)) = some (r1, r2) := h
 clear h
 by_cases c3 : 0 ≤ a1
 ·
  rw [if_pos c3] at H
  have c3b0 : decide (0 ≤ a1) = true := decide_eq_true c3
  clear c3
  revert H
  refine gi (fun c4b0 H => ?_)
  have H' := am_ H
  clear H
  go_enter Try.func121, Try.ntmps121
  go_wp2_with (first | ((with_reducible refine gd_ 4 ?_); refine be_ 4 #[.int .i64 0, .int .i64 0] 33 ?_; intro gb115 hg w5 hbox hb; have BK115 := am_ hbox; have GW115 := tG HB hg; have GE115 := tG HB hg; replace HB := tHb HB hb; clear hb hbox hg) | ((with_reducible refine gd_ 5 ?_); refine be_ 5 #[.int .i64 0, .int .i64 0] 33 ?_; intro gb116 hg w6 hbox hb; have BK116 := am_ hbox; have GW116 := tG HB hg; have GE116 := tG HB hg; replace HB := tHb HB hb; have NB115_116 := tL BK115 hg; have NB116_115 := tR BK115 hg; replace BK115 := tBb BK115 hb; clear hb hbox hg; have hnb7 := NB116_115.out; have hnc7 := NB115_116.out; obtain ⟨z8_0, z8_1, y8_0, y8_1⟩ := bx2 BK116; have p117 : 0 ≤ (a1 : Int) := dt; have q117 : a1 < (l0.length : Int) := dt; obtain ⟨ad117, e117, hx117_0, hx117_1, hx117_2⟩ := at_T111 HR0.out a1 p117 q117; cases e117; have hn117_0 : ad117.block ≠ gb116 := Nat.ne_of_lt (Nat.lt_of_lt_of_le (by have := World.block_lt_of_cell? _ _ hx117_0; first | rwa [add_block] at this | exact this) GW116.out); have hn117_1 : ad117.block ≠ gb116 := Nat.ne_of_lt (Nat.lt_of_lt_of_le (by have := World.block_lt_of_cell? _ _ hx117_0; first | rwa [add_block] at this | exact this) GW116.out); replace hx117_0 := ce HB hx117_0; replace hx117_1 := ce HB hx117_1; replace hx117_2 := ce HB hx117_2; replace hx117_0 := (cell_far (p := ⟨gb116, 0, none⟩) (by first | (rw [add_block]; exact hn117_0) | (show (Addr.add _ _).block ≠ _; rw [add_block]; exact hn117_0) | exact hn117_0) (.int .i64 1)).trans hx117_0; replace hx117_1 := (cell_far (p := ⟨gb116, 0, none⟩) (by first | (rw [add_block]; exact hn117_0) | (show (Addr.add _ _).block ≠ _; rw [add_block]; exact hn117_0) | exact hn117_0) (.int .i64 1)).trans hx117_1; replace hx117_2 := (cell_far (p := ⟨gb116, 0, none⟩) (by first | (rw [add_block]; exact hn117_0) | (show (Addr.add _ _).block ≠ _; rw [add_block]; exact hn117_0) | exact hn117_0) (.int .i64 1)).trans hx117_2; replace hx117_0 := (cell_far (p := ⟨gb116, 1, none⟩) (by first | (rw [add_block]; exact hn117_1) | (show (Addr.add _ _).block ≠ _; rw [add_block]; exact hn117_1) | exact hn117_1) (.int .i64 0)).trans hx117_0; replace hx117_1 := (cell_far (p := ⟨gb116, 1, none⟩) (by first | (rw [add_block]; exact hn117_1) | (show (Addr.add _ _).block ≠ _; rw [add_block]; exact hn117_1) | exact hn117_1) (.int .i64 0)).trans hx117_1; replace hx117_2 := (cell_far (p := ⟨gb116, 1, none⟩) (by first | (rw [add_block]; exact hn117_1) | (show (Addr.add _ _).block ≠ _; rw [add_block]; exact hn117_1) | exact hn117_1) (.int .i64 0)).trans hx117_2; clear hn117_0 hn117_1; replace p117 := eq_true p117; replace q117 := eq_true q117) | ((with_reducible refine gd_ 6 ?_); refine be_ 6 #[.int .i64 0, .int .i64 0] 33 ?_; intro gb118 hg w9 hbox hb; have BK118 := am_ hbox; have GW118 := tG HB hg; have GE118 := tG HB hg; replace HB := tHb HB hb; have NB115_118 := tL BK115 hg; have NB118_115 := tR BK115 hg; replace BK115 := tBb BK115 hb; have NB116_118 := am_ ((by rw [hg]; exact Nat.ne_of_lt (blk_lt (g := gb116) (o := .cells #[.int .i64 1, .int .i64 0] 33 (0, 0)) (gP BK116 rfl)) : gb116 ≠ gb118)); have NB118_116 := am_ ((by rw [hg]; exact Nat.ne_of_gt (blk_lt (g := gb116) (o := .cells #[.int .i64 1, .int .i64 0] 33 (0, 0)) (gP BK116 rfl)) : gb118 ≠ gb116)); replace BK116 := am_ (blk_below (g := gb116) (o := .cells #[.int .i64 1, .int .i64 0] 33 (0, 0)) (gP BK116 rfl) hb); clear hb hbox hg; have hnb10 := NB118_115.out; have hnc10 := NB115_118.out; have hnb11 := NB118_116.out; have hnc11 := NB116_118.out; obtain ⟨z12_0, z12_1, y12_0, y12_1⟩ := bx2 BK118))
  go_loopg [20] k (fun kq v20 w' => ∃ (x20_1 : Int) (x117000_1 : Int) (x117001_1 : Int), v20 = .int .i64 x20_1 ∧ Asc (Fo.l0 kq l0 a1 (l0.length : Int) x20_1 x117000_1 x117001_1 ((rd_T111 l0 a1).f0) 0 = some (r1, r2)) ∧ Asc (kq ≤ k) ∧ Asc (w'.heap[gb115]? = some (.cells #[.int .i64 0, .int .i64 0] 33 (0, 0))) ∧ Asc (w'.heap[gb116]? = some (.cells #[.int .i64 x117000_1, .int .i64 x117001_1] 33 (0, 0))) ∧ Asc (w'.heap[gb118]? = some (.cells #[.int .i64 ((rd_T111 l0 a1).f0), .int .i64 0] 33 (0, 0))) ∧ Asc (Below w.heap.size w w'))
  case atStart => exact ⟨(0), (1), (0), fr, H', ⟨Nat.le_refl _⟩, ⟨gB BK115⟩, ⟨gB BK116⟩, ⟨gP BK118 rfl⟩, ⟨bh HB⟩⟩
  case round =>
   clear H'
   try clear c3b0 c4b0 z12_0 z12_1 z8_0 z8_1 y12_0 y12_1 y8_0 y8_1 hx117_0 hx117_1 hx117_2 p117 q117
   obtain ⟨x20_1, x117000_1, x117001_1, rfl, HA, HK1, BK115, BK116, BK118, HB⟩ := hrel
   cases gk with
   | zero => exact absurd HA.out (by simp [Fo.l0])
   | succ k1 =>
    have H := HA.out
    clear HA
    simp only [Fo.l0] at H
    by_cases c13 : x20_1 < (l0.length : Int)
    ·
     rw [if_pos c13] at H
     have c13b0 : decide (x20_1 < (l0.length : Int)) = true := decide_eq_true c13
     clear c13
     by_cases c14 : x20_1 = a1
     ·
      rw [if_pos c14] at H
      have c14b0 : (x20_1 == a1) = true := beq_iff_eq.mpr c14
      have c14b1 : (x20_1 != a1) = false := bne_eq_false_iff_eq.mpr c14
      clear c14
      have H' := am_ H
      clear H
      go_wp2
      go_roundg k1
      case measure => have := HK1.out; omega
      case rel => exact ⟨(wrap64 (x20_1 + 1)), (x117000_1), (x117001_1), fr, H', kS HK1, ⟨gB BK115⟩, ⟨gB BK116⟩, ⟨gB BK118⟩, ⟨bh HB⟩⟩
     rw [if_neg c14] at H
     have c14b0 : (x20_1 == a1) = false := beq_eq_false_iff_ne.mpr c14
     have c14b1 : (x20_1 != a1) = true := bne_iff_ne.mpr c14
     revert H
     refine gi (fun c15b0 H => ?_)
     revert H
     refine gi (fun c16b0 H => ?_)
     replace H := Option.bind_eq_some_iff.mp H
     obtain ⟨⟨t121, t122⟩, A170, H⟩ := H
     replace H : ((Ge.f t121 t122).bind fun bt123 => ((G6.f ((rd_T111 l0 x20_1).f0) 0 bt123.1 bt123.2.1).bind fun bt127 => ((G6.f x117000_1 x117001_1 bt127.1 bt127.2).bind fun bt129 => (Fo.l0 k1 l0 a1 (l0.length : Int) (wrap64 (x20_1 + 1)) bt129.1 bt129.2 ((rd_T111 l0 a1).f0) 0)))) = some (r1, r2) := H
     have A17 := am_ A170
     clear A170
     replace H := Option.bind_eq_some_iff.mp H
     obtain ⟨⟨t123, t124, t125⟩, A180, H⟩ := H
     replace H : ((G6.f ((rd_T111 l0 x20_1).f0) 0 t123 t124).bind fun bt127 => ((G6.f x117000_1 x117001_1 bt127.1 bt127.2).bind fun bt129 => (Fo.l0 k1 l0 a1 (l0.length : Int) (wrap64 (x20_1 + 1)) bt129.1 bt129.2 ((rd_T111 l0 a1).f0) 0))) = some (r1, r2) := H
     have A18 := am_ A180
     clear A180
     replace H := Option.bind_eq_some_iff.mp H
     obtain ⟨⟨t127, t128⟩, A190, H⟩ := H
     replace H : ((G6.f x117000_1 x117001_1 t127 t128).bind fun bt129 => (Fo.l0 k1 l0 a1 (l0.length : Int) (wrap64 (x20_1 + 1)) bt129.1 bt129.2 ((rd_T111 l0 a1).f0) 0)) = some (r1, r2) := H
     have A19 := am_ A190
     clear A190
     replace H := Option.bind_eq_some_iff.mp H
     obtain ⟨⟨t129, t130⟩, A200, H⟩ := H
     replace H : (Fo.l0 k1 l0 a1 (l0.length : Int) (wrap64 (x20_1 + 1)) t129 t130 ((rd_T111 l0 a1).f0) 0) = some (r1, r2) := H
     have A20 := am_ A200
     clear A200
     have H' := am_ H
     clear H
     have p119 : 0 ≤ (x20_1 : Int) := dt
     have q119 : x20_1 < (l0.length : Int) := dt
     obtain ⟨ad119, e119, hx119_0, hx119_1, hx119_2⟩ := at_T111 HR0.out x20_1 p119 q119
     obtain rfl : ad117 = ad119 := (by injection e119)
     replace hx119_0 := ce HB hx119_0
     replace hx119_1 := ce HB hx119_1
     replace hx119_2 := ce HB hx119_2
     replace p119 := eq_true p119
     replace q119 := eq_true q119
     try go_wp2_with (first | ((with_reducible refine gd_ 8 ?_); refine be_ 8 #[.int .i64 0, .int .i64 0] 33 ?_; intro gb120 hg w21 hbox hb; have BK120 := am_ hbox; have GW120 := tG HB hg; have GE120 := tG HB hg; replace HB := tHb HB hb; have NB115_120 := tL BK115 hg; have NB120_115 := tR BK115 hg; replace BK115 := tBb BK115 hb; have NB116_120 := tL BK116 hg; have NB120_116 := tR BK116 hg; replace BK116 := tBb BK116 hb; have NB118_120 := tL BK118 hg; have NB120_118 := tR BK118 hg; replace BK118 := tBb BK118 hb; clear hb hbox hg; have hnb22 := NB120_115.out; have hnc22 := NB115_120.out; have hnb23 := NB120_116.out; have hnc23 := NB116_120.out; have hnb24 := NB120_118.out; have hnc24 := NB118_120.out; obtain ⟨z25_0, z25_1, y25_0, y25_1⟩ := bx2 BK120; have hnb26 := NB118_115.out; have hnc26 := NB115_118.out; have hnb27 := NB118_116.out; have hnc27 := NB116_118.out; obtain ⟨z28_0, z28_1, y28_0, y28_1⟩ := bx2 BK118) | ((with_reducible refine gate_callee (f := 140) rfl ?_); refine gl_ (some 35) Try.func140 #[.agg #[.int .i64 ((rd_T111 l0 x20_1).f0), .int .i64 0], .agg #[.int .i64 ((rd_T111 l0 a1).f0), .int .i64 0]] ?_; (with_reducible refine (Gn.calls ((rd_T111 l0 x20_1).f0) 0 ((rd_T111 l0 a1).f0) 0 t121 t122 _ A17.out).mono ?_); rintro e w29 ⟨rfl, hb⟩; refine ⟨_, rfl, ?_⟩; replace BK115 := tBb BK115 hb; replace BK116 := tBb BK116 hb; replace BK118 := tBb BK118 hb; replace BK120 := am_ (blk_below (g := gb120) (o := .cells #[.int .i64 ((rd_T111 l0 x20_1).f0), .int .i64 0] 33 (0, 0)) (gP BK120 rfl) hb); replace HB := tHb HB hb; (try clear hb)) | ((with_reducible refine gate_callee (f := 139) rfl ?_); refine gl_ (some 36) Try.func139 #[.agg #[.int .i64 t121, .int .i64 t122]] ?_; (with_reducible refine (Ge.calls t121 t122 t123 t124 t125 _ A18.out).mono ?_); rintro e w30 ⟨rfl, hb⟩; refine ⟨_, rfl, ?_⟩; replace BK115 := tBb BK115 hb; replace BK116 := tBb BK116 hb; replace BK118 := tBb BK118 hb; replace BK120 := tBb BK120 hb; replace HB := tHb HB hb; (try clear hb)) | ((with_reducible refine gd_ 9 ?_); refine be_ 9 #[.int .i64 0, .int .i64 0] 33 ?_; intro gb126 hg w31 hbox hb; have BK126 := am_ hbox; have GW126 := tG HB hg; have GE126 := tG HB hg; replace HB := tHb HB hb; have NB115_126 := tL BK115 hg; have NB126_115 := tR BK115 hg; replace BK115 := tBb BK115 hb; have NB116_126 := tL BK116 hg; have NB126_116 := tR BK116 hg; replace BK116 := tBb BK116 hb; have NB118_126 := tL BK118 hg; have NB126_118 := tR BK118 hg; replace BK118 := tBb BK118 hb; have NB120_126 := tL BK120 hg; have NB126_120 := tR BK120 hg; replace BK120 := tBb BK120 hb; clear hb hbox hg; have hnb32 := NB126_115.out; have hnc32 := NB115_126.out; have hnb33 := NB126_116.out; have hnc33 := NB116_126.out; have hnb34 := NB126_118.out; have hnc34 := NB118_126.out; have hnb35 := NB126_120.out; have hnc35 := NB120_126.out; obtain ⟨z36_0, z36_1, y36_0, y36_1⟩ := bx2 BK126) | ((with_reducible refine gate_store (t := 33) (p := 9) rfl ?_); refine se_ 33 9 ((w31.setCell ⟨gb126, 0, none⟩ (.int .i64 t123)).setCell ⟨gb126, 1, none⟩ (.int .i64 t124)) ?_; intro w37 hw; replace BK115 : Asc (w37.heap[gb115]? = some (.cells #[.int .i64 0, .int .i64 0] 33 (0, 0))) := ⟨(by rw [hw]; exact (gB BK115))⟩; replace BK116 : Asc (w37.heap[gb116]? = some (.cells #[.int .i64 x117000_1, .int .i64 x117001_1] 33 (0, 0))) := ⟨(by rw [hw]; exact (gB BK116))⟩; replace BK118 : Asc (w37.heap[gb118]? = some (.cells #[.int .i64 ((rd_T111 l0 a1).f0), .int .i64 0] 33 (0, 0))) := ⟨(by rw [hw]; exact (gB BK118))⟩; replace BK120 : Asc (w37.heap[gb120]? = some (.cells #[.int .i64 ((rd_T111 l0 x20_1).f0), .int .i64 0] 33 (0, 0))) := ⟨(by rw [hw]; exact (gB BK120))⟩; replace BK126 : Asc (w37.heap[gb126]? = some (.cells #[.int .i64 t123, .int .i64 t124] 33 (0, 0))) := ⟨(by rw [hw]; exact (gP BK126 rfl))⟩; replace HB : Asc (Below w.heap.size w w37) := ⟨(by rw [hw]; exact (bh HB))⟩; clear hw))
     replace BK115 := am_ (blk_drew BK115.out)
     replace BK116 := am_ (blk_drew BK116.out)
     replace BK118 := am_ (blk_drew BK118.out)
     replace BK120 := am_ (blk_drew BK120.out)
     replace BK126 := am_ (blk_drew BK126.out)
     replace HB := am_ (below_drew1 HB.out)
     refine start_ (n := 6) (S := fun w' => w'.cell? ⟨gb116, 0, none⟩ = some (.int .i64 x117000_1) ∧ w'.cell? ⟨gb116, 1, none⟩ = some (.int .i64 x117001_1) ∧ w'.cell? ⟨gb120, 0, none⟩ = some (.int .i64 ((rd_T111 l0 x20_1).f0)) ∧ w'.cell? ⟨gb120, 1, none⟩ = some (.int .i64 0) ∧ w'.cell? ⟨gb126, 0, none⟩ = some (.int .i64 t123) ∧ w'.cell? ⟨gb126, 1, none⟩ = some (.int .i64 t124)) (ds := [5]) #[false, false, false, false, false, false] (by kernel_rfl) rfl rfl ⟨(blk_cell BK116.out 0).trans rfl, (blk_cell BK116.out 1).trans rfl, (blk_cell BK120.out 0).trans rfl, (blk_cell BK120.out 1).trans rfl, (blk_cell BK126.out 0).trans rfl, (blk_cell BK126.out 1).trans rfl⟩ (fun hHeld => ?_)
     generalize w37.drew = w38 at BK115 BK116 BK118 BK120 BK126 HB hHeld ⊢
     refine take_ (i := 0) (N := some 39) (v := ?_) (a' := ?_) #[true, false, false, false, false, false] rfl rfl (by kernel_rfl) (fun _ _ _ h => h) (Or.inl ⟨by rfl, ?_⟩) hHeld ?_ ?_
     rotate_left
     ·
      rintro w' ⟨s0, s1, s2, s3, s4, s5⟩
      go_simp
      with_reducible rfl
     rotate_left
     ·
      simp only [Act.put, List.setIfInBounds_toArray, List.set_cons_zero, List.set_cons_succ, i64_w, i32_w]
      rfl
     refine take_ (i := 1) (N := some 40) (v := ?_) (a' := ?_) #[true, true, false, false, false, false] rfl rfl (by kernel_rfl) (fun _ _ _ h => h) (Or.inl ⟨by rfl, ?_⟩) hHeld ?_ ?_
     rotate_left
     ·
      rintro w' ⟨s0, s1, s2, s3, s4, s5⟩
      go_simp
      with_reducible rfl
     rotate_left
     ·
      simp only [Act.put, List.setIfInBounds_toArray, List.set_cons_zero, List.set_cons_succ, i64_w, i32_w]
      rfl
     refine take_ (i := 2) (N := some 41) (v := ?_) (a' := ?_) #[true, true, true, false, false, false] rfl rfl (by kernel_rfl) (fun _ _ _ h => h) (Or.inl ⟨by rfl, ?_⟩) hHeld ?_ ?_
     rotate_left
     ·
      rintro w' ⟨s0, s1, s2, s3, s4, s5⟩
      go_simp
      with_reducible rfl
     rotate_left
     ·
      simp only [Act.put, List.setIfInBounds_toArray, List.set_cons_zero, List.set_cons_succ, i64_w, i32_w]
      rfl
     refine one_ (i := 3) (N := some 42) #[true, true, true, true, false, false] rfl rfl (by kernel_rfl) (by decide) (fun K hK => ?_)
     refine goes_ Try.func120 (by kernel_rfl) rfl #[.agg #[.int .i64 ((rd_T111 l0 x20_1).f0), .int .i64 0], .agg #[.int .i64 t123, .int .i64 t124]] (by rfl) rfl rfl (by (try simp only [List.map_toArray, List.map_cons, List.map_nil]); first | done | rfl | (simp only [List.length_drop, List.length_take]; rfl)) ?_
     with_reducible refine (G6.calls ((rd_T111 l0 x20_1).f0) 0 t123 t124 t127 t128 _ A19.out).mono ?_
     rintro e w39 ⟨rfl, hb⟩
     refine ⟨_, rfl, ?_⟩
     replace BK115 := tBb BK115 hb
     replace BK116 := tBb BK116 hb
     replace BK118 := tBb BK118 hb
     replace BK120 := tBb BK120 hb
     replace BK126 := tBb BK126 hb
     replace HB := tHb HB hb
     (try clear hb)
     (try clear hb2)
     (try clear hk)
     (try clear hi)
     refine hK.out _ _ ⟨(blk_cell BK116.out 0).trans rfl, (blk_cell BK116.out 1).trans rfl, (blk_cell BK120.out 0).trans rfl, (blk_cell BK120.out 1).trans rfl, (blk_cell BK126.out 0).trans rfl, (blk_cell BK126.out 1).trans rfl⟩ (fun hHeld => ?_)
     clear hK K
     refine norm_ (a' := ?_) ?_ ?_
     rotate_left
     ·
      show Act.put _ (some 42) _ = _
      simp only [Act.put, List.setIfInBounds_toArray, List.set_cons_zero, List.set_cons_succ, i64_w, i32_w]
      rfl
     refine one_ (i := 4) (N := some 43) #[true, true, true, true, true, false] rfl rfl (by kernel_rfl) (by decide) (fun K hK => ?_)
     refine goes_ Try.func120 (by kernel_rfl) rfl #[.agg #[.int .i64 x117000_1, .int .i64 x117001_1], .agg #[.int .i64 t127, .int .i64 t128]] (by rfl) rfl rfl (by (try simp only [List.map_toArray, List.map_cons, List.map_nil]); first | done | rfl | (simp only [List.length_drop, List.length_take]; rfl)) ?_
     with_reducible refine (G6.calls x117000_1 x117001_1 t127 t128 t129 t130 _ A20.out).mono ?_
     rintro e w40 ⟨rfl, hb⟩
     refine ⟨_, rfl, ?_⟩
     replace BK115 := tBb BK115 hb
     replace BK116 := tBb BK116 hb
     replace BK118 := tBb BK118 hb
     replace BK120 := tBb BK120 hb
     replace BK126 := tBb BK126 hb
     replace HB := tHb HB hb
     (try clear hb)
     (try clear hb2)
     (try clear hk)
     (try clear hi)
     refine hK.out _ _ ⟨(blk_cell BK116.out 0).trans rfl, (blk_cell BK116.out 1).trans rfl, (blk_cell BK120.out 0).trans rfl, (blk_cell BK120.out 1).trans rfl, (blk_cell BK126.out 0).trans rfl, (blk_cell BK126.out 1).trans rfl⟩ (fun hHeld => ?_)
     clear hK K
     refine norm_ (a' := ?_) ?_ ?_
     rotate_left
     ·
      show Act.put _ (some 43) _ = _
      simp only [Act.put, List.setIfInBounds_toArray, List.set_cons_zero, List.set_cons_succ, i64_w, i32_w]
      rfl
     refine last_ (i := 5) (N := none) #[true, true, true, true, true, true] rfl rfl (by kernel_rfl) (by decide) (fun K hK => ?_)
     have hs41 : w40.cell? ⟨gb116, 0, none⟩ = some (.int .i64 x117000_1) := (blk_cell BK116.out 0).trans rfl
     have hfs41 := blk_frozen BK116.out 0
     have hns41_0 := NB115_116.out
     have hns41_2 := NB118_116.out
     have hns41_3 := NB120_116.out
     have hns41_4 := NB126_116.out
     have hms41_0 := NB116_115.out
     have hms41_2 := NB116_118.out
     have hms41_3 := NB116_120.out
     have hms41_4 := NB116_126.out
     have hs42 : w40.cell? ⟨gb116, 1, none⟩ = some (.int .i64 x117001_1) := (blk_cell BK116.out 1).trans rfl
     have hfs42 := blk_frozen BK116.out 1
     have hns42_0 := NB115_116.out
     have hns42_2 := NB118_116.out
     have hns42_3 := NB120_116.out
     have hns42_4 := NB126_116.out
     have hms42_0 := NB116_115.out
     have hms42_2 := NB116_118.out
     have hms42_3 := NB116_120.out
     have hms42_4 := NB116_126.out
     refine skip_ (w1 := ?_) (by rfl) rfl ?_ ?_
     rotate_left
     ·
      go_simp
      rfl
     refine hK.out _ _ ?_
     clear hK K
     refine done_ (by kernel_rfl) ?_
     try go_wp2
     go_roundg k1
     case measure => have := HK1.out; omega
     case rel => exact ⟨(wrap64 (x20_1 + 1)), (t129), (t130), fr, H', kS HK1, ⟨gB BK115⟩, ⟨gP BK116 rfl⟩, ⟨gB BK118⟩, ⟨bh HB⟩⟩
    rw [if_neg c13] at H
    have c13b0 : decide (x20_1 < (l0.length : Int)) = false := decide_eq_false c13
    clear c13
    simp only [Option.some.injEq, Prod.mk.injEq] at H
    obtain ⟨rfl, rfl⟩ := H
    have hnb43 := NB116_115.out
    have hnc43 := NB115_116.out
    have hnb44 := NB116_118.out
    have hnc44 := NB118_116.out
    obtain ⟨z45_0, z45_1, y45_0, y45_1⟩ := bx2 BK116
    have hnb46 := NB115_118.out
    have hnc46 := NB118_115.out
    obtain ⟨z47_0, z47_1, y47_0, y47_1⟩ := bx2 BK115
    go_wp2
    refine bodyPost_ret (results_cell_row rfl _ _ gb115 33 #[.int .i64 x117000_1, .int .i64 x117001_1] (0, 0) _ rfl (gP BK115 rfl) Try.underlying33 rfl (by kernel_rfl)) rfl ?_
    exact ⟨fe, bh HB⟩
 rw [if_neg c3] at H
 exact absurd H (by simp)

def eS (l : List S111) : List (Int × Gm.E) := l.map fun s => (s.f0, (s.f1.f0, s.f1.f1))
theorem rowS_of {w : World} {A : Option Addr} {l : List S111} (h : Kd.C k111 w A l.length l) : Fl.RowS w A (eS l) := by
 intro i hi
 have hi' : i < l.length := by simpa [eS] using hi
 obtain ⟨ad, e, h0, h1, h2⟩ := at_T111 h (i : Int) (by omega) (by omega)
 have e2 : (eS l).getD i (0, (0, 0)) = ((rd_T111 l (i : Int)).f0, ((rd_T111 l (i : Int)).f1.f0, (rd_T111 l (i : Int)).f1.f1)) := by
  unfold eS rd_T111
  simp [List.getElem?_eq_getElem hi']
 rw [Int.toNat_natCast] at h0 h1 h2
 rw [e2]
 exact ⟨ad, e, h0, h1, h2⟩
theorem eS_length (l : List S111) : (eS l).length = l.length := by simp [eS]
def Gh.f (a0 : Int) : Option (Int) := if a0 < 1 then (some 0) else (some (wrap64 ((wrap64 (Int.tdiv (wrap64 (a0 - 1)) 3)) + 1)))
set_option maxHeartbeats 8000000 in
set_option maxRecDepth 100000 in
theorem Gh.calls (a0 : Int) (r : Int) (w : World) (h : Gh.f a0 = some r) :
  Calls Try.prog 36 #[.int .i64 a0] w fun e w' => e = .returned (.int .i64 r) ∧ Drawn0 w w' := by
 have H : (if a0 < 1 then (some 0) else (some (wrap64 ((wrap64 (Int.tdiv (wrap64 (a0 - 1)) 3)) + 1)))) = some r := h
 clear h
 by_cases c2 : a0 < 1
 ·
  rw [if_pos c2] at H
  have c2b0 : decide (a0 < 1) = true := decide_eq_true c2
  clear c2
  obtain rfl := Option.some.inj H
  go_enter Try.func36, Try.ntmps36
  go_wp2
  go_ret
  exact ⟨fr, by repeat (first | exact Drawn0.refl _ | apply Drawn0.step)⟩
 rw [if_neg c2] at H
 have c2b0 : decide (a0 < 1) = false := decide_eq_false c2
 clear c2
 obtain rfl := Option.some.inj H
 go_enter Try.func36, Try.ntmps36
 go_wp2
 go_ret
 exact ⟨fr, by repeat (first | exact Drawn0.refl _ | apply Drawn0.step)⟩

def Fa.l0 : Nat → Int → List (S37) → Int → Int → Option (Int)
 | 0, _, _, _, _ => none
 | k + 1, x3, x7, x8, x9 => if x9 < x8 then (if 0 ≤ x9 then (if x9 < (x7.length : Int) then ((Gh.f ((rd_T37 x7 x9).f1.f1)).bind fun t134 => (Fa.l0 k (mx x3 t134) x7 x8 (wrap64 (x9 + 1)))) else (none)) else (none)) else (some x3)
def Fa.f (k : Nat) (a0_0 : Int) (a0_1 : Int) (l0_2 : List (S37)) : Option (Int) := Fa.l0 k 0 l0_2 (l0_2.length : Int) 0
theorem Fa.mono_l : ∀ k, (∀ y0 y1 y2 y3, LeO (Fa.l0 k y0 y1 y2 y3) (Fa.l0 (k + 1) y0 y1 y2 y3))
 | 0 => fun _ _ _ _ r h => by simp [Fa.l0] at h
 | k + 1 => by
  have ih0 := Fa.mono_l k
  ·
   intro y0 y1 y2 y3
   unfold Fa.l0
   repeat' first | (with_reducible first | exact ih0 _ _ _ _ | exact LeO.refl _ | exact LeO.none _ | refine LeO.ite ?_ ?_ | refine LeO.bind ?_ (fun _ => ?_)) | exact ih0 _ _ _ _ | refine LeO.ite ?_ ?_ | refine LeO.bind ?_ (fun _ => ?_)
theorem Fa.mono : ∀ a0 a1 a2 k, LeO (Fa.f k a0 a1 a2) (Fa.f (k + 1) a0 a1 a2) := by
 intro a0 a1 a2 k
 have ih0 := Fa.mono_l k
 unfold Fa.f
 repeat' first | (with_reducible first | exact ih0 _ _ _ _ | exact LeO.refl _ | exact LeO.none _ | refine LeO.ite ?_ ?_ | refine LeO.bind ?_ (fun _ => ?_)) | exact ih0 _ _ _ _ | refine LeO.ite ?_ ?_ | refine LeO.bind ?_ (fun _ => ?_)
set_option maxHeartbeats 8000000 in
set_option maxRecDepth 100000 in
theorem Fa.calls (k : Nat) (a0_0 : Int) (a0_1 : Int) (A0_2 : Option Addr) (c0_2 : Nat) (l0_2 : List (S37)) (r : Int) (w : World) (hr0_2 : Kd.C k37 w A0_2 l0_2.length l0_2) (hc0_2 : l0_2.length ≤ c0_2) (h : Fa.f k a0_0 a0_1 l0_2 = some r) :
  Calls Try.prog 14 #[.agg #[.int .i64 a0_0, .int .i64 a0_1, .slice A0_2 l0_2.length c0_2]] w fun e w' => e = .returned (.int .i64 r) ∧ Below w.heap.size w w' := by
 have hu24 := Try.underlying24
 have hu37 := Try.underlying37
 have HR0_2 := am_ hr0_2
 have HC0_2 := am_ hc0_2
 clear hr0_2 hc0_2
 have HB := am_ (Below.refl w.heap.size w)
 have H : (Fa.l0 k 0 l0_2 (l0_2.length : Int) 0) = some r := h
 clear h
 have H' := am_ H
 clear H
 go_enter Try.func14, Try.ntmps14
 go_wp2_with (first | ((with_reducible refine gd_ 1 ?_); refine be_ 1 #[.int .i64 a0_0, .int .i64 a0_1, .slice A0_2 l0_2.length c0_2] 24 ?_; intro gb131 hg w2 hbox hb; have BK131 := am_ hbox; have GW131 := tG HB hg; have GE131 := tG HB hg; replace HB := tHb HB hb; clear hb hbox hg; obtain ⟨z3_0, z3_1, z3_2, y3_0, y3_1, y3_2⟩ := bx3 BK131))
 go_loopg [3, 9] k (fun kq v3 v9 w' => ∃ (x3_1 : Int) (x9_1 : Int), v3 = .int .i64 x3_1 ∧ v9 = .int .i64 x9_1 ∧ Asc (Fa.l0 kq x3_1 l0_2 (l0_2.length : Int) x9_1 = some r) ∧ Asc (kq ≤ k) ∧ Asc (w'.heap[gb131]? = some (.cells #[.int .i64 a0_0, .int .i64 a0_1, (.slice A0_2 l0_2.length c0_2)] 24 (0, 0))) ∧ Asc (Below w.heap.size w w'))
 case atStart => exact ⟨(0), (0), fr, fr, H', ⟨Nat.le_refl _⟩, ⟨gB BK131⟩, ⟨bh HB⟩⟩
 case round =>
  clear H'
  try clear z3_0 z3_1 z3_2 y3_0 y3_1 y3_2
  obtain ⟨x3_1, x9_1, rfl, rfl, HA, HK1, BK131, HB⟩ := hrel
  cases gk with
  | zero => exact absurd HA.out (by simp [Fa.l0])
  | succ k1 =>
   have H := HA.out
   clear HA
   simp only [Fa.l0] at H
   by_cases c4 : x9_1 < (l0_2.length : Int)
   ·
    rw [if_pos c4] at H
    have c4b0 : decide (x9_1 < (l0_2.length : Int)) = true := decide_eq_true c4
    clear c4
    revert H
    refine gi (fun c5b0 H => ?_)
    revert H
    refine gi (fun c6b0 H => ?_)
    replace H := Option.bind_eq_some_iff.mp H
    obtain ⟨t134, A70, H⟩ := H
    replace H : (Fa.l0 k1 (mx x3_1 t134) l0_2 (l0_2.length : Int) (wrap64 (x9_1 + 1))) = some r := H
    have A7 := am_ A70
    clear A70
    obtain ⟨ji8, hji8⟩ : ∃ j_ : Int, (mx x3_1 t134) = j_ := ⟨_, rfl⟩
    replace H : (Fa.l0 k1 ji8 l0_2 (l0_2.length : Int) (wrap64 (x9_1 + 1))) = some r := by first | (rw [hji8] at H; exact H) | (simp only [hji8] at H ⊢; exact H)
    (try rw [hji8] at A7)
    have hji8_ : (if x3_1 < t134 then t134 else x3_1) = ji8 := hji8
    have H' := am_ H
    clear H
    have p132 : 0 ≤ (x9_1 : Int) := dt
    have q132 : x9_1 < (l0_2.length : Int) := dt
    obtain ⟨ad132, A132_3, c132_3, A132_4, c132_4, e132, hx132_0, hx132_1, hx132_2, hx132_3, hx132_4, hx132_5, hx132_6, hl132_3, hi132_3, hl132_4, hi132_4⟩ := at_T37 HR0_2.out x9_1 p132 q132
    cases e132
    replace hx132_0 := ce HB hx132_0
    replace hx132_1 := ce HB hx132_1
    replace hx132_2 := ce HB hx132_2
    replace hx132_3 := ce HB hx132_3
    replace hx132_4 := ce HB hx132_4
    replace hx132_5 := ce HB hx132_5
    replace hx132_6 := ce HB hx132_6
    have HR132_3 := am_ hi132_3
    have HC132_3 := am_ hl132_3
    clear hi132_3 hl132_3
    have HR132_4 := am_ hi132_4
    have HC132_4 := am_ hl132_4
    clear hi132_4 hl132_4
    replace p132 := eq_true p132
    replace q132 := eq_true q132
    go_wp2_with (first | ((with_reducible refine gd_ 5 ?_); refine be_ 5 #[.string (⟨#[]⟩ : ByteArray), .int .i64 0, .int .i64 0, .slice none 0 0, .slice none 0 0, .int .i64 0, .int .i64 0] 37 ?_; intro gb133 hg w9 hbox hb; have BK133 := am_ hbox; have GW133 := tG HB hg; have GE133 := tG HB hg; replace HB := tHb HB hb; have NB131_133 := tL BK131 hg; have NB133_131 := tR BK131 hg; replace BK131 := tBb BK131 hb; clear hb hbox hg; have hnb10 := NB133_131.out; have hnc10 := NB131_133.out; obtain ⟨z11_0, z11_1, z11_2, z11_3, z11_4, z11_5, z11_6, y11_0, y11_1, y11_2, y11_3, y11_4, y11_5, y11_6⟩ := bx7 BK133) | ((with_reducible refine gate_callee (f := 36) rfl ?_); refine gl_ (some 17) Try.func36 #[.int .i64 ((rd_T37 l0_2 x9_1).f1.f1)] ?_; (with_reducible refine (Gh.calls ((rd_T37 l0_2 x9_1).f1.f1) t134 _ A7.out).mono ?_); rintro e w' ⟨rfl, ⟨nd, rfl⟩⟩; refine ⟨_, rfl, ?_⟩))
    go_roundg k1
    case measure => have := HK1.out; omega
    case rel => exact ⟨(ji8), (wrap64 (x9_1 + 1)), (by first | rfl | (simp; done) | (simp only [← hji8] <;> (first | rfl | simp)) | (simp [*]; done)), fr, H', kS HK1, ⟨gB BK131⟩, ⟨bh HB⟩⟩
   rw [if_neg c4] at H
   have c4b0 : decide (x9_1 < (l0_2.length : Int)) = false := decide_eq_false c4
   clear c4
   obtain rfl := Option.some.inj H
   go_wp2
   go_ret
   exact ⟨fe, bh HB⟩

def Fr.f (a0 : Int) : Option (Bool) := if a0 ≥ 4 then (if a0 ≤ 64 then (some ((Int.tmod a0 3) == 1)) else (some false)) else (some false)
set_option maxHeartbeats 8000000 in
set_option maxRecDepth 100000 in
theorem Fr.calls (a0 : Int) (r : Bool) (w : World) (h : Fr.f a0 = some r) :
  Calls Try.prog 71 #[.int .i64 a0] w fun e w' => e = .returned (.bool r) ∧ Drawn0 w w' := by
 have H : (if a0 ≥ 4 then (if a0 ≤ 64 then (some ((Int.tmod a0 3) == 1)) else (some false)) else (some false)) = some r := h
 clear h
 by_cases c2 : a0 ≥ 4
 ·
  rw [if_pos c2] at H
  have c2b0 : decide (4 ≤ a0) = true := decide_eq_true c2
  clear c2
  by_cases c3 : a0 ≤ 64
  ·
   rw [if_pos c3] at H
   have c3b0 : decide (a0 ≤ 64) = true := decide_eq_true c3
   clear c3
   obtain rfl := Option.some.inj H
   go_enter Try.func71, Try.ntmps71
   go_wp2
   go_ret
   exact ⟨fr, by repeat (first | exact Drawn0.refl _ | apply Drawn0.step)⟩
  rw [if_neg c3] at H
  have c3b0 : decide (a0 ≤ 64) = false := decide_eq_false c3
  clear c3
  obtain rfl := Option.some.inj H
  go_enter Try.func71, Try.ntmps71
  go_wp2
  go_ret
  exact ⟨fr, by repeat (first | exact Drawn0.refl _ | apply Drawn0.step)⟩
 rw [if_neg c2] at H
 have c2b0 : decide (4 ≤ a0) = false := decide_eq_false c2
 clear c2
 obtain rfl := Option.some.inj H
 go_enter Try.func71, Try.ntmps71
 go_wp2
 go_ret
 exact ⟨fr, by repeat (first | exact Drawn0.refl _ | apply Drawn0.step)⟩

def Gb.f (a0 : Int) : Option (Int) := (Fr.f a0).bind fun t135 => (if t135 = true then (some (wrap64 (Int.tdiv (wrap64 (a0 - 1)) 3))) else (some 0))
set_option maxHeartbeats 8000000 in
set_option maxRecDepth 100000 in
theorem Gb.calls (a0 : Int) (r : Int) (w : World) (h : Gb.f a0 = some r) :
  Calls Try.prog 72 #[.int .i64 a0] w fun e w' => e = .returned (.int .i64 r) ∧ Drawn0 w w' := by
 have H : ((Fr.f a0).bind fun t135 => (if t135 = true then (some (wrap64 (Int.tdiv (wrap64 (a0 - 1)) 3))) else (some 0))) = some r := h
 clear h
 replace H := Option.bind_eq_some_iff.mp H
 obtain ⟨t135, A20, H⟩ := H
 replace H : (if t135 = true then (some (wrap64 (Int.tdiv (wrap64 (a0 - 1)) 3))) else (some 0)) = some r := H
 have A2 := am_ A20
 clear A20
 by_cases c3 : t135 = true
 ·
  subst c3
  rw [if_pos rfl] at H
  obtain rfl := Option.some.inj H
  go_enter Try.func72, Try.ntmps72
  go_wp2_with (first | ((with_reducible refine gate_callee (f := 71) rfl ?_); refine gl_ (some 4) Try.func71 #[.int .i64 a0] ?_; (with_reducible refine (Fr.calls a0 true _ A2.out).mono ?_); rintro e w' ⟨rfl, ⟨nd, rfl⟩⟩; refine ⟨_, rfl, ?_⟩))
  go_ret
  exact ⟨fr, by repeat (first | exact Drawn0.refl _ | apply Drawn0.step)⟩
 replace c3 := Bool.eq_false_iff.mpr c3
 subst c3
 rw [if_neg (show ¬ (false = true) by decide)] at H
 obtain rfl := Option.some.inj H
 go_enter Try.func72, Try.ntmps72
 go_wp2_with (first | ((with_reducible refine gate_callee (f := 71) rfl ?_); refine gl_ (some 4) Try.func71 #[.int .i64 a0] ?_; (with_reducible refine (Fr.calls a0 false _ A2.out).mono ?_); rintro e w' ⟨rfl, ⟨nd, rfl⟩⟩; refine ⟨_, rfl, ?_⟩))
 go_ret
 exact ⟨fr, by repeat (first | exact Drawn0.refl _ | apply Drawn0.step)⟩

def Fs.f (a0 : Int) : Option (Int) := (Fr.f a0).bind fun t136 => (if t136 = true then ((Gb.f a0).bind fun t137 => (some (wrap64 (t137 + 1)))) else (some 0))
set_option maxHeartbeats 8000000 in
set_option maxRecDepth 100000 in
theorem Fs.calls (a0 : Int) (r : Int) (w : World) (h : Fs.f a0 = some r) :
  Calls Try.prog 38 #[.int .i64 a0] w fun e w' => e = .returned (.int .i64 r) ∧ Drawn0 w w' := by
 have H : ((Fr.f a0).bind fun t136 => (if t136 = true then ((Gb.f a0).bind fun t137 => (some (wrap64 (t137 + 1)))) else (some 0))) = some r := h
 clear h
 replace H := Option.bind_eq_some_iff.mp H
 obtain ⟨t136, A20, H⟩ := H
 replace H : (if t136 = true then ((Gb.f a0).bind fun t137 => (some (wrap64 (t137 + 1)))) else (some 0)) = some r := H
 have A2 := am_ A20
 clear A20
 by_cases c3 : t136 = true
 ·
  subst c3
  rw [if_pos rfl] at H
  replace H := Option.bind_eq_some_iff.mp H
  obtain ⟨t137, A40, H⟩ := H
  replace H : (some (wrap64 (t137 + 1))) = some r := H
  have A4 := am_ A40
  clear A40
  obtain rfl := Option.some.inj H
  go_enter Try.func38, Try.ntmps38
  go_wp2_with (first | ((with_reducible refine gate_callee (f := 71) rfl ?_); refine gl_ (some 4) Try.func71 #[.int .i64 a0] ?_; (with_reducible refine (Fr.calls a0 true _ A2.out).mono ?_); rintro e w' ⟨rfl, ⟨nd, rfl⟩⟩; refine ⟨_, rfl, ?_⟩) | ((with_reducible refine gate_callee (f := 72) rfl ?_); refine gl_ (some 7) Try.func72 #[.int .i64 a0] ?_; (with_reducible refine (Gb.calls a0 t137 _ A4.out).mono ?_); rintro e w' ⟨rfl, ⟨nd, rfl⟩⟩; refine ⟨_, rfl, ?_⟩))
  go_ret
  exact ⟨fr, by repeat (first | exact Drawn0.refl _ | apply Drawn0.step)⟩
 replace c3 := Bool.eq_false_iff.mpr c3
 subst c3
 rw [if_neg (show ¬ (false = true) by decide)] at H
 obtain rfl := Option.some.inj H
 go_enter Try.func38, Try.ntmps38
 go_wp2_with (first | ((with_reducible refine gate_callee (f := 71) rfl ?_); refine gl_ (some 4) Try.func71 #[.int .i64 a0] ?_; (with_reducible refine (Fr.calls a0 false _ A2.out).mono ?_); rintro e w' ⟨rfl, ⟨nd, rfl⟩⟩; refine ⟨_, rfl, ?_⟩))
 go_ret
 exact ⟨fr, by repeat (first | exact Drawn0.refl _ | apply Drawn0.step)⟩

theorem may_is (a b : Int) : Fy.f a b = some (decide (Gm.Ok (a, b))) := by
 have e : Gm.Ok (a, b) ↔ 0 ≤ a ∧ a < 10007 ∧ 0 ≤ b ∧ b < 10007 := Iff.rfl
 unfold Fy.f
 by_cases h1 : a ≥ 0
 ·
  by_cases h2 : a < 10007
  ·
   by_cases h3 : b ≥ 0
   ·
    rw [if_pos h1, if_pos h2, if_pos h3, Option.some.injEq, decide_eq_decide, e]
    omega
   rw [if_pos h1, if_pos h2, if_neg h3, decide_eq_false (fun h => by rw [e] at h; omega)]
  rw [if_pos h1, if_neg h2, decide_eq_false (fun h => by rw [e] at h; omega)]
 rw [if_neg h1, decide_eq_false (fun h => by rw [e] at h; omega)]
theorem inv_is (x : Gm.E) : ∃ e, Ge.f x.1 x.2 = some ((Fl.invE x).1, (Fl.invE x).2, e) := by
 unfold Ge.f Fl.invE
 rw [may_is, Option.bind_some]
 by_cases h : Gm.Ok x
 ·
  rw [if_pos (by simpa using h), if_pos h]
  by_cases h0 : x = (0, 0)
  ·
   rw [if_pos h0, if_pos (by rw [h0]; rfl)]
   exact ⟨1, rfl⟩
  have : ¬ (x.1 == 0 && (x.2 == 0)) = true := by
   intro h1
   simp only [Bool.and_eq_true, beq_iff_eq] at h1
   exact h0 (Prod.ext h1.1 h1.2)
  rw [if_neg this, if_neg h0]
  unfold Ga.f Fl.powE
  rw [if_pos (by decide), if_pos h]
  exact ⟨0, rfl⟩
 rw [if_neg (by simpa using h), if_neg h]
 exact ⟨1, rfl⟩
theorem weight_l0 (l : List S111) (own : Int) (k : Nat) (hl : l.length ≤ 9223372036854775807) : ∀ (r i : Nat) (o : Gm.E), i + r = l.length →
  Fo.l0 (r + 1) l (k : Int) (l.length : Int) (i : Int) o.1 o.2 own 0 = some (Fl.wtFrom (eS l) own k r i o)
 | 0, i, o, h => by
  rw [Fo.l0, if_neg (by omega)]
  rfl
 | r + 1, i, o, h => by
  have hw : wrap64 ((i : Int) + 1) = ((i + 1 : Nat) : Int) := by rw [Go.IntWalk.wrap64_in _ (by omega)]; omega
  have e2 : (rd_T111 l (i : Int)).f0 = ((eS l).getD i (0, (0, 0))).1 := by
   unfold eS rd_T111
   simp [List.getElem?_eq_getElem (show i < l.length by omega)]
  rw [Fo.l0, if_pos (by omega), hw, Fl.wtFrom]
  by_cases hk : i = k
  ·
   rw [if_pos (by omega), if_pos hk]
   exact weight_l0 l own k hl r (i + 1) o (by omega)
  rw [if_neg (by omega), if_neg hk, if_pos (by omega), if_pos (by omega), e2]
  generalize ((eS l).getD i (0, (0, 0))).1 = id
  obtain ⟨e, he⟩ := inv_is (Fl.opE Gm.sub (id, 0) (own, 0))
  unfold Gn.f G6.f
  simp only [Option.bind_some]
  rw [he]
  simp only [Option.bind_some]
  exact weight_l0 l own k hl r (i + 1) _ (by omega)
theorem weight_is (l : List S111) (k : Nat) (hl : l.length ≤ 9223372036854775807) (hk : k < l.length) : Fo.f (l.length + 1) l (k : Int) = some (Fl.wtE (eS l) k) := by
 unfold Fo.f
 have e2 : (rd_T111 l (k : Int)).f0 = ((eS l).getD k (0, (0, 0))).1 := by
  unfold eS rd_T111
  simp [List.getElem?_eq_getElem hk]
 rw [if_pos (by omega), if_pos (by omega), e2]
 have := weight_l0 l ((eS l).getD k (0, (0, 0))).1 k hl l.length 0 (1, 0) (by omega)
 unfold Fl.wtE
 rw [eS_length]
 exact this
def Gg.f (l0 : List (S111)) : Option (Int × Int × Int) := some ((Fl.openE (eS l0) (Fl.wtE (eS l0))).1.1, (Fl.openE (eS l0) (Fl.wtE (eS l0))).1.2, (Fl.openE (eS l0) (Fl.wtE (eS l0))).2)
theorem Gg.calls (A0 : Option Addr) (c0 : Nat) (l0 : List (S111)) (r1 : Int) (r2 : Int) (r3 : Int) (w : World) (hr0 : Kd.C k111 w A0 l0.length l0) (hc0 : l0.length ≤ c0) (h : Gg.f l0 = some (r1, r2, r3)) :
  Calls Try.prog 92 #[.slice A0 l0.length c0] w fun e w' => e = .returned (.tuple #[.agg #[.int .i64 r1, .int .i64 r2], .int .i64 r3]) ∧ Below w.heap.size w w' := by
 have e := Option.some.inj h
 simp only [Prod.mk.injEq] at e
 obtain ⟨e1, e2, e3⟩ := e
 have hl := Kd.C_max hr0
 have c := Fl.open_c A0 c0 (eS l0) (Fl.wtE (eS l0)) w (rowS_of hr0) (by rw [eS_length]; exact hl) (fun n hn W hB => by
  rw [eS_length] at hn ⊢
  exact Fo.calls (l0.length + 1) A0 c0 l0 n _ _ W (Kd.C_below hr0 hB) hc0 (weight_is l0 n hl hn))
 rw [e1, e2, e3, eS_length] at c
 exact c

def Gc.f (a0_0 : Int) (a0_1 : Int) (a1 : Int) : Option (Int) := (Fr.f a1).bind fun t139 => (if t139 = true then ((Fy.f a0_0 a0_1).bind fun t140 => (if t140 = true then (if a1 = 0 then (none) else (some (wrap64 (1 + (Int.tmod (wrap64 ((wrap64 (a0_0 * 10007)) + a0_1)) a1))))) else (some 0))) else (some 0))
set_option maxHeartbeats 8000000 in
set_option maxRecDepth 100000 in
theorem Gc.calls (a0_0 : Int) (a0_1 : Int) (a1 : Int) (r : Int) (w : World) (h : Gc.f a0_0 a0_1 a1 = some r) :
  Calls Try.prog 93 #[.agg #[.int .i64 a0_0, .int .i64 a0_1], .int .i64 a1] w fun e w' => e = .returned (.int .i64 r) ∧ Below w.heap.size w w' := by
 have hu33 := Try.underlying33
 have HB := am_ (Below.refl w.heap.size w)
 have H : ((Fr.f a1).bind fun t139 => (if t139 = true then ((Fy.f a0_0 a0_1).bind fun t140 => (if t140 = true then (if a1 = 0 then (none) else (some (wrap64 (1 + (Int.tmod (wrap64 ((wrap64 (a0_0 * 10007)) + a0_1)) a1))))) else (some 0))) else (some 0))) = some r := h
 clear h
 replace H := Option.bind_eq_some_iff.mp H
 obtain ⟨t139, A30, H⟩ := H
 replace H : (if t139 = true then ((Fy.f a0_0 a0_1).bind fun t140 => (if t140 = true then (if a1 = 0 then (none) else (some (wrap64 (1 + (Int.tmod (wrap64 ((wrap64 (a0_0 * 10007)) + a0_1)) a1))))) else (some 0))) else (some 0)) = some r := H
 have A3 := am_ A30
 clear A30
 by_cases c4 : t139 = true
 ·
  subst c4
  rw [if_pos rfl] at H
  replace H := Option.bind_eq_some_iff.mp H
  obtain ⟨t140, A50, H⟩ := H
  replace H : (if t140 = true then (if a1 = 0 then (none) else (some (wrap64 (1 + (Int.tmod (wrap64 ((wrap64 (a0_0 * 10007)) + a0_1)) a1))))) else (some 0)) = some r := H
  have A5 := am_ A50
  clear A50
  by_cases c6 : t140 = true
  ·
   subst c6
   rw [if_pos rfl] at H
   by_cases c7 : a1 = 0
   ·
    rw [if_pos c7] at H
    exact absurd H (by simp)
   rw [if_neg c7] at H
   have c7b0 : (a1 == 0) = false := beq_eq_false_iff_ne.mpr c7
   have c7b1 : (a1 != 0) = true := bne_iff_ne.mpr c7
   obtain rfl := Option.some.inj H
   go_enter Try.func93, Try.ntmps93
   go_wp2_with (first | ((with_reducible refine gd_ 2 ?_); refine be_ 2 #[.int .i64 a0_0, .int .i64 a0_1] 33 ?_; intro gb138 hg w8 hbox hb; have BK138 := am_ hbox; have GW138 := tG HB hg; have GE138 := tG HB hg; replace HB := tHb HB hb; clear hb hbox hg) | ((with_reducible refine gate_callee (f := 71) rfl ?_); refine gl_ (some 6) Try.func71 #[.int .i64 a1] ?_; (with_reducible refine (Fr.calls a1 true _ A3.out).mono ?_); rintro e w' ⟨rfl, ⟨nd, rfl⟩⟩; refine ⟨_, rfl, ?_⟩; obtain ⟨z9_0, z9_1, y9_0, y9_1⟩ := bx2 BK138) | (go_at_call 116; (with_reducible refine (Fy.calls a0_0 a0_1 true _ A5.out).mono ?_); rintro e w10 ⟨rfl, hb⟩; replace BK138 := tBb BK138 hb; replace HB := tHb HB hb; (try clear hb); obtain ⟨z11_0, z11_1, y11_0, y11_1⟩ := bx2 BK138))
   go_ret
   exact ⟨fe, bh HB⟩
  replace c6 := Bool.eq_false_iff.mpr c6
  subst c6
  rw [if_neg (show ¬ (false = true) by decide)] at H
  obtain rfl := Option.some.inj H
  go_enter Try.func93, Try.ntmps93
  go_wp2_with (first | ((with_reducible refine gd_ 2 ?_); refine be_ 2 #[.int .i64 a0_0, .int .i64 a0_1] 33 ?_; intro gb138 hg w12 hbox hb; have BK138 := am_ hbox; have GW138 := tG HB hg; have GE138 := tG HB hg; replace HB := tHb HB hb; clear hb hbox hg) | ((with_reducible refine gate_callee (f := 71) rfl ?_); refine gl_ (some 6) Try.func71 #[.int .i64 a1] ?_; (with_reducible refine (Fr.calls a1 true _ A3.out).mono ?_); rintro e w' ⟨rfl, ⟨nd, rfl⟩⟩; refine ⟨_, rfl, ?_⟩; obtain ⟨z13_0, z13_1, y13_0, y13_1⟩ := bx2 BK138) | (go_at_call 116; (with_reducible refine (Fy.calls a0_0 a0_1 false _ A5.out).mono ?_); rintro e w14 ⟨rfl, hb⟩; replace BK138 := tBb BK138 hb; replace HB := tHb HB hb; (try clear hb)))
  go_ret
  exact ⟨fe, bh HB⟩
 replace c4 := Bool.eq_false_iff.mpr c4
 subst c4
 rw [if_neg (show ¬ (false = true) by decide)] at H
 obtain rfl := Option.some.inj H
 go_enter Try.func93, Try.ntmps93
 go_wp2_with (first | ((with_reducible refine gd_ 2 ?_); refine be_ 2 #[.int .i64 a0_0, .int .i64 a0_1] 33 ?_; intro gb138 hg w15 hbox hb; have BK138 := am_ hbox; have GW138 := tG HB hg; have GE138 := tG HB hg; replace HB := tHb HB hb; clear hb hbox hg) | ((with_reducible refine gate_callee (f := 71) rfl ?_); refine gl_ (some 6) Try.func71 #[.int .i64 a1] ?_; (with_reducible refine (Fr.calls a1 false _ A3.out).mono ?_); rintro e w' ⟨rfl, ⟨nd, rfl⟩⟩; refine ⟨_, rfl, ?_⟩))
 go_ret
 exact ⟨fe, bh HB⟩

end Go.Proofs.Ytcbfnmabckjijaa.PTuskStops
