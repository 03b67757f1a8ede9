-- written by a program of this session (pp.py), out of the kit's print and this session's contracts
import Derived.Test.YtcbfnmabckjijaaPTuskStopsx0
import Derived.Test.YtcbfnmabckjijaaVTuskStopsPh
namespace Go.Proofs.Ytcbfnmabckjijaa.PTuskStops
open Go.RowKit Go.Proofs.YtcbfnmabckjijaaW.PrintWords Go.Proofs.YtcbfnmabckjijaaW.PrintLast Go.Proofs.YtcbfnmabckjijaaW.PrintMore
set_option linter.unusedVariables false
set_option linter.unusedSimpArgs false

def Fj.l0 : Nat → ByteArray → Int → Int → Int → List (S37) → Option (ByteArray × Int × Int × (List (S129)) × List ByteArray × Int × Int × Bool)
 | 0, _, _, _, _, _ => none
 | k + 1, x1, x6, x324000, x324001, x324002 => if x6 < (x324002.length : Int) then (if 0 ≤ x6 then (if ((rd_T37 x324002 x6).f0).toList = x1.toList then (some ((rd_T37 x324002 x6).f0, (rd_T37 x324002 x6).f1.f0, (rd_T37 x324002 x6).f1.f1, (rd_T37 x324002 x6).f1.f2, (rd_T37 x324002 x6).f1.f3, (rd_T37 x324002 x6).f1.f4.f0, (rd_T37 x324002 x6).f1.f4.f1, true)) else (Fj.l0 k x1 (wrap64 (x6 + 1)) x324000 x324001 x324002)) else (none)) else (some ((⟨#[]⟩ : ByteArray), 0, 0, ([] : List (S129)), ([] : List ByteArray), 0, 0, false))
def Fj.f (k : Nat) (a0_0 : Int) (a0_1 : Int) (l0_2 : List (S37)) (a1 : ByteArray) : Option (ByteArray × Int × Int × (List (S129)) × List ByteArray × Int × Int × Bool) := Fj.l0 k a1 0 a0_0 a0_1 l0_2
theorem Fj.mono_l : ∀ k, (∀ y0 y1 y2 y3 y4, LeO (Fj.l0 k y0 y1 y2 y3 y4) (Fj.l0 (k + 1) y0 y1 y2 y3 y4))
 | 0 => fun _ _ _ _ _ r h => by simp [Fj.l0] at h
 | k + 1 => by
  have ih0 := Fj.mono_l k
  ·
   intro y0 y1 y2 y3 y4
   unfold Fj.l0
   repeat' first | (with_reducible first | exact ih0 _ _ _ _ _ | exact LeO.refl _ | exact LeO.none _ | refine LeO.ite ?_ ?_ | refine LeO.bind ?_ (fun _ => ?_)) | exact ih0 _ _ _ _ _ | refine LeO.ite ?_ ?_ | refine LeO.bind ?_ (fun _ => ?_)
theorem Fj.mono : ∀ a0 a1 a2 a3 k, LeO (Fj.f k a0 a1 a2 a3) (Fj.f (k + 1) a0 a1 a2 a3) := by
 intro a0 a1 a2 a3 k
 have ih0 := Fj.mono_l k
 unfold Fj.f
 repeat' first | (with_reducible first | exact ih0 _ _ _ _ _ | exact LeO.refl _ | exact LeO.none _ | refine LeO.ite ?_ ?_ | refine LeO.bind ?_ (fun _ => ?_)) | exact ih0 _ _ _ _ _ | refine LeO.ite ?_ ?_ | refine LeO.bind ?_ (fun _ => ?_)
set_option maxHeartbeats 8000000 in
set_option maxRecDepth 100000 in
theorem Fj.calls (k : Nat) (a0_0 : Int) (a0_1 : Int) (P0_2_ : Nat → Prop) (A0_2 : Option Addr) (c0_2 : Nat) (l0_2 : List (S37)) (a1 : ByteArray) (r1 : ByteArray) (r2 : Int) (r3 : Int) (r4 : List (S129)) (r5 : List ByteArray) (r6 : Int) (r7 : Int) (r8 : Bool) (w : World) (hs0_2 : Kd.V k37 37 w w.heap.size (fun k_ => P0_2_ k_) (.slice A0_2 l0_2.length c0_2) l0_2) (h : Fj.f k a0_0 a0_1 l0_2 a1 = some (r1, r2, r3, r4, r5, r6, r7, r8)) :
  Calls Try.prog 31 #[.agg #[.int .i64 a0_0, .int .i64 a0_1, .slice A0_2 l0_2.length c0_2], .string a1] w fun e w' => ∃ v3_ v4_ : Value, e = .returned (.tuple #[.agg #[.string r1, .int .i64 r2, .int .i64 r3, v3_, v4_, .int .i64 r6, .int .i64 r7], .bool r8]) ∧ Kd.V k129 129 w' w.heap.size (fun k_ => (P0_2_ k_ ∨ w.heap.size ≤ k_)) v3_ r4 ∧ Kd.V Kd.string 9 w' w.heap.size (fun k_ => (P0_2_ k_ ∨ w.heap.size ≤ k_)) v4_ r5 ∧ Below w.heap.size w w' := by
 have hu24 := Try.underlying24
 have hu37 := Try.underlying37
 have HO0_2 := am_ (show Kd.V k37 37 w w.heap.size (fun k_ => (P0_2_ k_ ∨ w.heap.size ≤ k_)) (.slice A0_2 l0_2.length c0_2) l0_2 from Kd.V_mono hs0_2 (fun k_ hk => .inl hk))
 have HB := am_ (Below.refl w.heap.size w)
 have H : (Fj.l0 k a1 0 a0_0 a0_1 l0_2) = some (r1, r2, r3, r4, r5, r6, r7, r8) := h
 clear h
 have H' := am_ H
 clear H
 go_enter Try.func31, Try.ntmps31
 go_wp2_with (first | ((with_reducible refine gd_ 2 ?_); refine be_ 2 #[.int .i64 a0_0, .int .i64 a0_1, .slice A0_2 l0_2.length c0_2] 24 ?_; intro gb323 hg w3 hbox hb; replace HO0_2 := tVe HO0_2 hg hb; have BK323 := am_ hbox; have GW323 := tG HB hg; have GE323 := tG HB hg; replace HB := tHb HB hb; clear hb hbox hg) | ((with_reducible refine gd_ 4 ?_); refine be_ 4 #[.string (⟨#[]⟩ : ByteArray), .int .i64 0, .int .i64 0, .slice none 0 0, .slice none 0 0, .int .i64 0, .int .i64 0] 37 ?_; intro gb324 hg w4 hbox hb; replace HO0_2 := tVe HO0_2 hg hb; have BK324 := am_ hbox; have GW324 := tG HB hg; have GE324 := tG HB hg; replace HB := tHb HB hb; have NB323_324 := tL BK323 hg; have NB324_323 := tR BK323 hg; replace BK323 := tBb BK323 hb; clear hb hbox hg))
 go_loopg [6] k (fun kq v6 w' => ∃ (x6_1 : Int) (x325000_1 : ByteArray) (x325001_1 : Int) (x325002_1 : Int) (x325005_1 : Int) (x325006_1 : Int), v6 = .int .i64 x6_1 ∧ Asc (Fj.l0 kq a1 x6_1 a0_0 a0_1 l0_2 = some (r1, r2, r3, r4, r5, r6, r7, r8)) ∧ Asc (kq ≤ k) ∧ Asc (Kd.V k37 37 w' w.heap.size (fun k_ => (P0_2_ k_ ∨ w.heap.size ≤ k_) ∧ k_ ≠ gb323 ∧ k_ ≠ gb324) (.slice A0_2 l0_2.length c0_2) l0_2) ∧ Asc (w'.heap[gb323]? = some (.cells #[.int .i64 a0_0, .int .i64 a0_1, (.slice A0_2 l0_2.length c0_2)] 24 (0, 0))) ∧ Asc (w'.heap[gb324]? = some (.cells #[.string x325000_1, .int .i64 x325001_1, .int .i64 x325002_1, (.slice none 0 0), (.slice none 0 0), .int .i64 x325005_1, .int .i64 x325006_1] 37 (0, 0))) ∧ Asc (Below w.heap.size w w'))
 case atStart => exact ⟨(0), ((⟨#[]⟩ : ByteArray)), (0), (0), (0), (0), fr, H', ⟨Nat.le_refl _⟩, ⟨gV HO0_2⟩, ⟨gB BK323⟩, ⟨gB BK324⟩, ⟨bh HB⟩⟩
 case round =>
  clear H'
  obtain ⟨x6_1, x325000_1, x325001_1, x325002_1, x325005_1, x325006_1, rfl, HA, HK1, HO_324002, BK323, BK324, HB⟩ := hrel
  cases gk with
  | zero => exact absurd HA.out (by simp [Fj.l0])
  | succ k1 =>
   have H := HA.out
   clear HA
   simp only [Fj.l0] at H
   by_cases c5 : x6_1 < (l0_2.length : Int)
   ·
    rw [if_pos c5] at H
    have c5b0 : decide (x6_1 < (l0_2.length : Int)) = true := decide_eq_true c5
    clear c5
    revert H
    refine gi (fun c6b0 H => ?_)
    by_cases c7 : ((rd_T37 l0_2 x6_1).f0).toList = a1.toList
    ·
     rw [if_pos c7] at H
     have c7b0 : (((rd_T37 l0_2 x6_1).f0).toList == a1.toList) = true := beq_iff_eq.mpr c7
     have c7b1 : (((rd_T37 l0_2 x6_1).f0).toList != a1.toList) = false := bne_eq_false_iff_eq.mpr c7
     clear c7
     simp only [Option.some.injEq, Prod.mk.injEq] at H
     obtain ⟨rfl, rfl, rfl, rfl, rfl, rfl, rfl, rfl⟩ := H
     have hnb8 := NB323_324.out
     have hnc8 := NB324_323.out
     obtain ⟨z9_0, z9_1, z9_2, y9_0, y9_1, y9_2⟩ := bx3 BK323
     have p325 : 0 ≤ (x6_1 : Int) := dt
     have q325 : x6_1 < (l0_2.length : Int) := dt
     obtain ⟨ad325, A325_3, c325_3, A325_4, c325_4, e325, hx325_0, hx325_1, hx325_2, hx325_3, hx325_4, hx325_5, hx325_6, hl325_3, hi325_3, hl325_4, hi325_4⟩ := at_T37 (Kd.V_reads' HO_324002.out).2.2 x6_1 p325 q325
     cases e325
     obtain ⟨ce325, hce325, hMe325, hcc325⟩ := Kd.V_get HO_324002.out z37 x6_1 p325 (by first | exact q325 | exact dt | (have e_ := (Kd.V_reads' HO_324002.out).1; omega))
     obtain ⟨ua325_3, uc325_3, ua325_4, uc325_4, rfl, ul325_3, ge325_3, ul325_4, ge325_4⟩ := k37_openF hMe325
     have hv325_3 := hcc325 3 _ rfl
     rw [add_field _ _ 3 (by omega)] at hv325_3
     replace hv325_3 := Option.some.inj (hv325_3.symm.trans hx325_3)
     injection hv325_3 with hva_ hvn_ hvc_
     rw [hva_] at ge325_3
     rw [hvc_] at ul325_3
     have HL325_3 := am_ (show Kd.V k129 129 _ w.heap.size _ _ ((rd_T37 l0_2 x6_1).f1.f2) from Kd.V_mk ul325_3 ge325_3)
     clear hva_ hvn_ hvc_ ge325_3 ul325_3
     have hv325_4 := hcc325 4 _ rfl
     rw [add_field _ _ 4 (by omega)] at hv325_4
     replace hv325_4 := Option.some.inj (hv325_4.symm.trans hx325_4)
     injection hv325_4 with hva_ hvn_ hvc_
     rw [hva_] at ge325_4
     rw [hvc_] at ul325_4
     have HL325_4 := am_ (show Kd.V Kd.string 9 _ w.heap.size _ _ ((rd_T37 l0_2 x6_1).f1.f3) from Kd.V_mk ul325_4 ge325_4)
     clear hva_ hvn_ hvc_ ge325_4 ul325_4 hcc325 hce325
     have HR325_3 := am_ hi325_3
     have HC325_3 := am_ hl325_3
     clear hi325_3 hl325_3
     have HR325_4 := am_ hi325_4
     have HC325_4 := am_ hl325_4
     clear hi325_4 hl325_4
     replace p325 := eq_true p325
     replace q325 := eq_true q325
     have p326 : 0 ≤ (x6_1 : Int) := dt
     have q326 : x6_1 < (l0_2.length : Int) := dt
     obtain ⟨ad326, A326_3, c326_3, A326_4, c326_4, e326, hx326_0, hx326_1, hx326_2, hx326_3, hx326_4, hx326_5, hx326_6, hl326_3, hi326_3, hl326_4, hi326_4⟩ := at_T37 (Kd.V_reads' HO_324002.out).2.2 x6_1 p326 q326
     obtain rfl : ad325 = ad326 := (by injection e326)
     obtain ⟨ce326, hce326, hMe326, hcc326⟩ := Kd.V_get HO_324002.out z37 x6_1 p326 (by first | exact q326 | exact dt | (have e_ := (Kd.V_reads' HO_324002.out).1; omega))
     obtain ⟨ua326_3, uc326_3, ua326_4, uc326_4, rfl, ul326_3, ge326_3, ul326_4, ge326_4⟩ := k37_openF hMe326
     have hv326_3 := hcc326 3 _ rfl
     rw [add_field _ _ 3 (by omega)] at hv326_3
     replace hv326_3 := Option.some.inj (hv326_3.symm.trans hx326_3)
     injection hv326_3 with hva_ hvn_ hvc_
     rw [hva_] at ge326_3
     rw [hvc_] at ul326_3
     have HL326_3 := am_ (show Kd.V k129 129 _ w.heap.size _ _ ((rd_T37 l0_2 x6_1).f1.f2) from Kd.V_mk ul326_3 ge326_3)
     clear hva_ hvn_ hvc_ ge326_3 ul326_3
     have hv326_4 := hcc326 4 _ rfl
     rw [add_field _ _ 4 (by omega)] at hv326_4
     replace hv326_4 := Option.some.inj (hv326_4.symm.trans hx326_4)
     injection hv326_4 with hva_ hvn_ hvc_
     rw [hva_] at ge326_4
     rw [hvc_] at ul326_4
     have HL326_4 := am_ (show Kd.V Kd.string 9 _ w.heap.size _ _ ((rd_T37 l0_2 x6_1).f1.f3) from Kd.V_mk ul326_4 ge326_4)
     clear hva_ hvn_ hvc_ ge326_4 ul326_4 hcc326 hce326
     have HR326_3 := am_ hi326_3
     have HC326_3 := am_ hl326_3
     clear hi326_3 hl326_3
     have HR326_4 := am_ hi326_4
     have HC326_4 := am_ hl326_4
     clear hi326_4 hl326_4
     replace p326 := eq_true p326
     replace q326 := eq_true q326
     have ea_ := Option.some.inj (hx325_3.symm.trans hx326_3)
     injection ea_ with ea_ en_ ec_
     subst ea_
     subst ec_
     clear en_
     have ea_ := Option.some.inj (hx325_4.symm.trans hx326_4)
     injection ea_ with ea_ en_ ec_
     subst ea_
     subst ec_
     clear en_
     obtain ⟨z10_0, z10_1, z10_2, z10_3, z10_4, z10_5, z10_6, y10_0, y10_1, y10_2, y10_3, y10_4, y10_5, y10_6⟩ := bx7 BK324
     go_wp2
     refine bodyPost_ret (results_ct rfl _ _ gb324 37 #[.string ((rd_T37 l0_2 x6_1).f0), .int .i64 ((rd_T37 l0_2 x6_1).f1.f0), .int .i64 ((rd_T37 l0_2 x6_1).f1.f1), .slice A325_3 ((rd_T37 l0_2 x6_1).f1.f2).length c325_3, .slice A325_4 ((rd_T37 l0_2 x6_1).f1.f3).length c325_4, .int .i64 ((rd_T37 l0_2 x6_1).f1.f4.f0), .int .i64 ((rd_T37 l0_2 x6_1).f1.f4.f1)] (0, 0) _ rfl (gP BK324 rfl) Try.underlying37 rfl (by kernel_rfl)) rfl ?_
     exact ⟨_, _, fe, gV HL326_3, gV HL326_4, bh HB⟩
    rw [if_neg c7] at H
    have c7b0 : (((rd_T37 l0_2 x6_1).f0).toList == a1.toList) = false := beq_eq_false_iff_ne.mpr c7
    have c7b1 : (((rd_T37 l0_2 x6_1).f0).toList != a1.toList) = true := bne_iff_ne.mpr c7
    have H' := am_ H
    clear H
    have hnb11 := NB323_324.out
    have hnc11 := NB324_323.out
    obtain ⟨z12_0, z12_1, z12_2, y12_0, y12_1, y12_2⟩ := bx3 BK323
    have p325 : 0 ≤ (x6_1 : Int) := dt
    have q325 : x6_1 < (l0_2.length : Int) := dt
    obtain ⟨ad325, A325_3, c325_3, A325_4, c325_4, e325, hx325_0, hx325_1, hx325_2, hx325_3, hx325_4, hx325_5, hx325_6, hl325_3, hi325_3, hl325_4, hi325_4⟩ := at_T37 (Kd.V_reads' HO_324002.out).2.2 x6_1 p325 q325
    cases e325
    obtain ⟨ce325, hce325, hMe325, hcc325⟩ := Kd.V_get HO_324002.out z37 x6_1 p325 (by first | exact q325 | exact dt | (have e_ := (Kd.V_reads' HO_324002.out).1; omega))
    obtain ⟨ua325_3, uc325_3, ua325_4, uc325_4, rfl, ul325_3, ge325_3, ul325_4, ge325_4⟩ := k37_openF hMe325
    have hv325_3 := hcc325 3 _ rfl
    rw [add_field _ _ 3 (by omega)] at hv325_3
    replace hv325_3 := Option.some.inj (hv325_3.symm.trans hx325_3)
    injection hv325_3 with hva_ hvn_ hvc_
    rw [hva_] at ge325_3
    rw [hvc_] at ul325_3
    have HL325_3 := am_ (show Kd.V k129 129 _ w.heap.size _ _ ((rd_T37 l0_2 x6_1).f1.f2) from Kd.V_mk ul325_3 ge325_3)
    clear hva_ hvn_ hvc_ ge325_3 ul325_3
    have hv325_4 := hcc325 4 _ rfl
    rw [add_field _ _ 4 (by omega)] at hv325_4
    replace hv325_4 := Option.some.inj (hv325_4.symm.trans hx325_4)
    injection hv325_4 with hva_ hvn_ hvc_
    rw [hva_] at ge325_4
    rw [hvc_] at ul325_4
    have HL325_4 := am_ (show Kd.V Kd.string 9 _ w.heap.size _ _ ((rd_T37 l0_2 x6_1).f1.f3) from Kd.V_mk ul325_4 ge325_4)
    clear hva_ hvn_ hvc_ ge325_4 ul325_4 hcc325 hce325
    have HR325_3 := am_ hi325_3
    have HC325_3 := am_ hl325_3
    clear hi325_3 hl325_3
    have HR325_4 := am_ hi325_4
    have HC325_4 := am_ hl325_4
    clear hi325_4 hl325_4
    replace p325 := eq_true p325
    replace q325 := eq_true q325
    go_wp2
    go_roundg k1
    case measure => have := HK1.out; omega
    case rel => exact ⟨(wrap64 (x6_1 + 1)), (x325000_1), (x325001_1), (x325002_1), (x325005_1), (x325006_1), fr, H', kS HK1, ⟨hV HO_324002⟩, ⟨gB BK323⟩, ⟨gB BK324⟩, ⟨bh HB⟩⟩
   rw [if_neg c5] at H
   have c5b0 : decide (x6_1 < (l0_2.length : Int)) = false := decide_eq_false c5
   clear c5
   simp only [Option.some.injEq, Prod.mk.injEq] at H
   obtain ⟨rfl, rfl, rfl, rfl, rfl, rfl, rfl, rfl⟩ := H
   have hnb13 := NB323_324.out
   have hnc13 := NB324_323.out
   obtain ⟨z14_0, z14_1, z14_2, y14_0, y14_1, y14_2⟩ := bx3 BK323
   obtain ⟨z15_0, z15_1, z15_2, z15_3, z15_4, z15_5, z15_6, y15_0, y15_1, y15_2, y15_3, y15_4, y15_5, y15_6⟩ := bx7 BK324
   go_wp2
   refine bodyPost_ret (results_ct rfl _ _ gb324 37 #[.string (⟨#[]⟩ : ByteArray), .int .i64 0, .int .i64 0, .slice none 0 0, .slice none 0 0, .int .i64 0, .int .i64 0] (0, 0) _ rfl (gP BK324 rfl) Try.underlying37 rfl (by kernel_rfl)) rfl ?_
   exact ⟨_, _, fe, Kd.V_nil _ _ _ _ _, Kd.V_nil _ _ _ _ _, bh HB⟩

mutual
def F6.l0 : Nat → ByteArray → ByteArray → Int → Option (Bool)
 | 0, _, _, _ => none
 | k + 1, x0, x1, x5 => if x5 < (x0.size : Int) then (F6.j1 k x0 x1 x5 (decide (x5 < (x1.size : Int)))) else (F6.j1 k x0 x1 x5 false)
def F6.j1 : Nat → ByteArray → ByteArray → Int → Bool → Option (Bool)
 | 0, _, _, _, _ => none
 | k + 1, x0, x1, x5, x15 => if x15 = true then (if 0 ≤ x5 then (if x5 < (x0.size : Int) then (if x5 < (x1.size : Int) then (if (bt x0 x5) = (bt x1 x5) then (F6.l0 k x0 x1 (wrap64 (x5 + 1))) else (some (decide ((bt x0 x5) < (bt x1 x5))))) else (none)) else (none)) else (none)) else (some (decide ((x0.size : Int) < (x1.size : Int))))
end
def F6.f (k : Nat) (a0 : ByteArray) (a1 : ByteArray) : Option (Bool) := F6.l0 k a0 a1 0
theorem F6.mono_l : ∀ k, (∀ y0 y1 y2, LeO (F6.l0 k y0 y1 y2) (F6.l0 (k + 1) y0 y1 y2)) ∧ (∀ y0 y1 y2 y3, LeO (F6.j1 k y0 y1 y2 y3) (F6.j1 (k + 1) y0 y1 y2 y3))
 | 0 => ⟨fun _ _ _ r h => by simp [F6.l0] at h, fun _ _ _ _ r h => by simp [F6.j1] at h⟩
 | k + 1 => by
  obtain ⟨ih0, ih1⟩ := F6.mono_l k
  refine ⟨?_, ?_⟩
  ·
   intro y0 y1 y2
   unfold F6.l0
   repeat' first | (with_reducible first | exact ih0 _ _ _ | exact ih1 _ _ _ _ | exact LeO.refl _ | exact LeO.none _ | refine LeO.ite ?_ ?_ | refine LeO.bind ?_ (fun _ => ?_)) | exact ih0 _ _ _ | exact ih1 _ _ _ _ | refine LeO.ite ?_ ?_ | refine LeO.bind ?_ (fun _ => ?_)
  intro y0 y1 y2 y3
  unfold F6.j1
  repeat' first | (with_reducible first | exact ih0 _ _ _ | exact ih1 _ _ _ _ | exact LeO.refl _ | exact LeO.none _ | refine LeO.ite ?_ ?_ | refine LeO.bind ?_ (fun _ => ?_)) | exact ih0 _ _ _ | exact ih1 _ _ _ _ | refine LeO.ite ?_ ?_ | refine LeO.bind ?_ (fun _ => ?_)
theorem F6.mono : ∀ a0 a1 k, LeO (F6.f k a0 a1) (F6.f (k + 1) a0 a1) := by
 intro a0 a1 k
 obtain ⟨ih0, ih1⟩ := F6.mono_l k
 unfold F6.f
 repeat' first | (with_reducible first | exact ih0 _ _ _ | exact ih1 _ _ _ _ | exact LeO.refl _ | exact LeO.none _ | refine LeO.ite ?_ ?_ | refine LeO.bind ?_ (fun _ => ?_)) | exact ih0 _ _ _ | exact ih1 _ _ _ _ | refine LeO.ite ?_ ?_ | refine LeO.bind ?_ (fun _ => ?_)
set_option maxHeartbeats 8000000 in
set_option maxRecDepth 100000 in
theorem F6.calls (k : Nat) (a0 : ByteArray) (a1 : ByteArray) (r : Bool) (w : World) (h : F6.f k a0 a1 = some r) :
  Calls Try.prog 85 #[.string a0, .string a1] w fun e w' => e = .returned (.bool r) ∧ Drawn0 w w' := by
 have H : (F6.l0 k a0 a1 0) = some r := h
 clear h
 have H' := am_ H
 clear H
 go_enter Try.func85, Try.ntmps85
 go_wp2
 repeat (go_quiet (fail); try go_wp2)
 go_loopg [5] k (fun kq v5 w' => ∃ (x5_1 : Int), v5 = .int .i64 x5_1 ∧ Asc (F6.l0 kq a0 a1 x5_1 = some r) ∧ Asc (kq ≤ k) ∧ Drawn0 w w')
 case atStart => exact ⟨(0), fr, H', ⟨Nat.le_refl _⟩, by repeat (first | exact Drawn0.refl _ | apply Drawn0.step)⟩
 case round =>
  clear H'
  obtain ⟨x5_1, rfl, HA, HK1, ⟨m1, rfl⟩⟩ := hrel
  cases gk with
  | zero => exact absurd HA.out (by simp [F6.l0])
  | succ k1 =>
   have H := HA.out
   clear HA
   simp only [F6.l0] at H
   have HC3 := am_ H
   clear H
   go_upto_region 2 with (fail)
   repeat (go_quiet (fail); go_upto_region 2 with (fail))
   go_cut [15] (fun v15 wc => ∃ (kq : Nat) (x15_2 : Bool), v15 = .bool x15_2 ∧ Asc (F6.j1 kq a0 a1 x5_1 x15_2 = some r) ∧ Asc (kq ≤ k1) ∧ Drawn0 w wc)
   case first =>
    have H := HC3.out
    clear HC3
    by_cases c4 : x5_1 < (a0.size : Int)
    ·
     rw [if_pos c4] at H
     have c4b0 : decide (x5_1 < (a0.size : Int)) = true := decide_eq_true c4
     clear c4
     (first | rw [c4b0] | (simp only [i64_w, i32_w]; rw [c4b0]) | skip)
     have H' := am_ H
     clear H
     go_wp2
     repeat (go_quiet (fail); try go_wp2)
     go_meet
     case rel => exact ⟨_, (decide (x5_1 < (a1.size : Int))), fr, H', ⟨by have := HK1.out; first | omega | exact Nat.le_refl _⟩, by repeat (first | exact Drawn0.refl _ | apply Drawn0.step)⟩
    rw [if_neg c4] at H
    have c4b0 : decide (x5_1 < (a0.size : Int)) = false := decide_eq_false c4
    clear c4
    (first | rw [c4b0] | (simp only [i64_w, i32_w]; rw [c4b0]) | skip)
    have H' := am_ H
    clear H
    go_wp2
    repeat (go_quiet (fail); try go_wp2)
    go_meet
    case rel => exact ⟨_, (false), fr, H', ⟨by have := HK1.out; first | omega | exact Nat.le_refl _⟩, by repeat (first | exact Drawn0.refl _ | apply Drawn0.step)⟩
   case rest =>
    clear HC3
    obtain ⟨kq, x15_2, rfl, HA, HJ2, ⟨mc2, rfl⟩⟩ := hcut
    cases kq with
    | zero => exact absurd HA.out (by simp [F6.j1])
    | succ kj2 =>
     have H := HA.out
     clear HA
     simp only [F6.j1] at H
     by_cases c5 : x15_2 = true
     ·
      subst c5
      rw [if_pos rfl] at H
      revert H
      refine gi (fun c6b0 H => ?_)
      revert H
      refine gi (fun c7b0 H => ?_)
      revert H
      refine gi (fun c9b0 H => ?_)
      by_cases c11 : (bt a0 x5_1) = (bt a1 x5_1)
      ·
       rw [if_pos c11] at H
       have c11b0 : ((bt a0 x5_1) == (bt a1 x5_1)) = true := beq_iff_eq.mpr c11
       have c11b1 : ((bt a0 x5_1) != (bt a1 x5_1)) = false := bne_eq_false_iff_eq.mpr c11
       clear c11
       have H' := am_ H
       clear H
       have p8 : 0 ≤ (x5_1 : Int) := dt
       have q8 : x5_1 < (a0.size : Int) := dt
       have hx8 := bt_at a0 x5_1
       replace p8 := eq_true p8
       replace q8 := eq_true q8
       have p10 : 0 ≤ (x5_1 : Int) := dt
       have q10 : x5_1 < (a1.size : Int) := dt
       have hx10 := bt_at a1 x5_1
       replace p10 := eq_true p10
       replace q10 := eq_true q10
       go_wp2
       repeat (go_quiet (fail); try go_wp2)
       go_roundg kj2
       case measure => have := HK1.out; have := HJ2.out; omega
       case rel => exact ⟨(wrap64 (x5_1 + 1)), fr, H', ⟨by have := HK1.out; have := HJ2.out; omega⟩, by repeat (first | exact Drawn0.refl _ | apply Drawn0.step)⟩
      rw [if_neg c11] at H
      have c11b0 : ((bt a0 x5_1) == (bt a1 x5_1)) = false := beq_eq_false_iff_ne.mpr c11
      have c11b1 : ((bt a0 x5_1) != (bt a1 x5_1)) = true := bne_iff_ne.mpr c11
      obtain rfl := Option.some.inj H
      have p8 : 0 ≤ (x5_1 : Int) := dt
      have q8 : x5_1 < (a0.size : Int) := dt
      have hx8 := bt_at a0 x5_1
      replace p8 := eq_true p8
      replace q8 := eq_true q8
      have p10 : 0 ≤ (x5_1 : Int) := dt
      have q10 : x5_1 < (a1.size : Int) := dt
      have hx10 := bt_at a1 x5_1
      replace p10 := eq_true p10
      replace q10 := eq_true q10
      have p12 : 0 ≤ (x5_1 : Int) := dt
      have q12 : x5_1 < (a0.size : Int) := dt
      have hx12 := bt_at a0 x5_1
      replace p12 := eq_true p12
      replace q12 := eq_true q12
      have p13 : 0 ≤ (x5_1 : Int) := dt
      have q13 : x5_1 < (a1.size : Int) := dt
      have hx13 := bt_at a1 x5_1
      replace p13 := eq_true p13
      replace q13 := eq_true q13
      go_wp2
      repeat (go_quiet (fail); try go_wp2)
      go_ret
      exact ⟨fr, by repeat (first | exact Drawn0.refl _ | apply Drawn0.step)⟩
     replace c5 := Bool.eq_false_iff.mpr c5
     subst c5
     rw [if_neg (show ¬ (false = true) by decide)] at H
     obtain rfl := Option.some.inj H
     go_wp2
     repeat (go_quiet (fail); try go_wp2)
     go_ret
     exact ⟨fr, by repeat (first | exact Drawn0.refl _ | apply Drawn0.step)⟩

mutual
def F2.j0 : Nat → Bool → Int → Int → List ByteArray → Option (Bool)
 | 0, _, _, _, _ => none
 | k + 1, x33, x328000, x328001, x328002 => if x33 = true then (some false) else (F2.l0 k 0 x328000 x328001 x328002)
def F2.l0 : Nat → Int → Int → Int → List ByteArray → Option (Bool)
 | 0, _, _, _, _ => none
 | k + 1, x3, x328000, x328001, x328002 => if x3 < (x328002.length : Int) then (if 0 ≤ x3 then (if ((rdOf ByteArray.empty x328002 x3).size : Int) < 1 then (some false) else (if ((rdOf ByteArray.empty x328002 x3).size : Int) > 48 then (some false) else (F2.l0 k (wrap64 (x3 + 1)) x328000 x328001 x328002))) else (none)) else (some true)
end
def F2.f (k : Nat) (a0_0 : Int) (a0_1 : Int) (l0_2 : List ByteArray) : Option (Bool) := if a0_0 < 1 then (F2.j0 k true a0_0 a0_1 l0_2) else (if a0_0 > 64 then (F2.j0 k true a0_0 a0_1 l0_2) else (if a0_1 < 1 then (F2.j0 k true a0_0 a0_1 l0_2) else (if a0_1 > 1073741824 then (F2.j0 k true a0_0 a0_1 l0_2) else (if (l0_2.length : Int) < 1 then (F2.j0 k true a0_0 a0_1 l0_2) else (F2.j0 k (decide ((l0_2.length : Int) > 4)) a0_0 a0_1 l0_2)))))
theorem F2.mono_l : ∀ k, (∀ y0 y1 y2 y3, LeO (F2.j0 k y0 y1 y2 y3) (F2.j0 (k + 1) y0 y1 y2 y3)) ∧ (∀ y0 y1 y2 y3, LeO (F2.l0 k y0 y1 y2 y3) (F2.l0 (k + 1) y0 y1 y2 y3))
 | 0 => ⟨fun _ _ _ _ r h => by simp [F2.j0] at h, fun _ _ _ _ r h => by simp [F2.l0] at h⟩
 | k + 1 => by
  obtain ⟨ih0, ih1⟩ := F2.mono_l k
  refine ⟨?_, ?_⟩
  ·
   intro y0 y1 y2 y3
   unfold F2.j0
   repeat' first | (with_reducible first | exact ih0 _ _ _ _ | exact ih1 _ _ _ _ | exact LeO.refl _ | exact LeO.none _ | refine LeO.ite ?_ ?_ | refine LeO.bind ?_ (fun _ => ?_)) | exact ih0 _ _ _ _ | exact ih1 _ _ _ _ | refine LeO.ite ?_ ?_ | refine LeO.bind ?_ (fun _ => ?_)
  intro y0 y1 y2 y3
  unfold F2.l0
  repeat' first | (with_reducible first | exact ih0 _ _ _ _ | exact ih1 _ _ _ _ | exact LeO.refl _ | exact LeO.none _ | refine LeO.ite ?_ ?_ | refine LeO.bind ?_ (fun _ => ?_)) | exact ih0 _ _ _ _ | exact ih1 _ _ _ _ | refine LeO.ite ?_ ?_ | refine LeO.bind ?_ (fun _ => ?_)
theorem F2.mono : ∀ a0 a1 a2 k, LeO (F2.f k a0 a1 a2) (F2.f (k + 1) a0 a1 a2) := by
 intro a0 a1 a2 k
 obtain ⟨ih0, ih1⟩ := F2.mono_l k
 unfold F2.f
 repeat' first | (with_reducible first | exact ih0 _ _ _ _ | exact ih1 _ _ _ _ | exact LeO.refl _ | exact LeO.none _ | refine LeO.ite ?_ ?_ | refine LeO.bind ?_ (fun _ => ?_)) | exact ih0 _ _ _ _ | exact ih1 _ _ _ _ | refine LeO.ite ?_ ?_ | refine LeO.bind ?_ (fun _ => ?_)
set_option maxHeartbeats 8000000 in
set_option maxRecDepth 100000 in
theorem F2.calls (k : Nat) (a0_0 : Int) (a0_1 : Int) (A0_2 : Option Addr) (c0_2 : Nat) (l0_2 : List ByteArray) (r : Bool) (w : World) (hr0_2 : Kd.C Kd.string w A0_2 l0_2.length l0_2) (hc0_2 : l0_2.length ≤ c0_2) (h : F2.f k a0_0 a0_1 l0_2 = some r) :
  Calls Try.prog 127 #[.agg #[.int .i64 a0_0, .int .i64 a0_1, .slice A0_2 l0_2.length c0_2]] w fun e w' => e = .returned (.bool r) ∧ Below w.heap.size w w' := by
 have hu129 := Try.underlying129
 have HR0_2 := am_ hr0_2
 have HC0_2 := am_ hc0_2
 clear hr0_2 hc0_2
 have HB := am_ (Below.refl w.heap.size w)
 have H : (if a0_0 < 1 then (F2.j0 k true a0_0 a0_1 l0_2) else (if a0_0 > 64 then (F2.j0 k true a0_0 a0_1 l0_2) else (if a0_1 < 1 then (F2.j0 k true a0_0 a0_1 l0_2) else (if a0_1 > 1073741824 then (F2.j0 k true a0_0 a0_1 l0_2) else (if (l0_2.length : Int) < 1 then (F2.j0 k true a0_0 a0_1 l0_2) else (F2.j0 k (decide ((l0_2.length : Int) > 4)) a0_0 a0_1 l0_2)))))) = some r := h
 clear h
 have HC2 := am_ H
 clear H
 go_enter Try.func127, Try.ntmps127
 go_upto_region 1 with (first | ((with_reducible refine gd_ 1 ?_); (try (refine gate_guard (by rfl) ?_; dsimp only)); refine be_ 1 #[.int .i64 a0_0, .int .i64 a0_1, .slice A0_2 l0_2.length c0_2] 129 ?_; intro gb327 hg w3 hbox hb; have BK327 := am_ hbox; have GW327 := tG HB hg; have GE327 := tG HB hg; replace HB := tHb HB hb; clear hb hbox hg))
 (try simp only [Act.put, List.setIfInBounds_toArray, List.set_cons_zero, List.set_cons_succ])
 go_cut [33] (fun v33 wc => ∃ (kq : Nat) (x33_1 : Bool), v33 = .bool x33_1 ∧ Asc (F2.j0 kq x33_1 a0_0 a0_1 l0_2 = some r) ∧ Asc (kq ≤ k) ∧ Asc (wc.heap[gb327]? = some (.cells #[.int .i64 a0_0, .int .i64 a0_1, (.slice A0_2 l0_2.length c0_2)] 129 (0, 0))) ∧ Asc (Below w.heap.size w wc))
 case first =>
  have H := HC2.out
  clear HC2
  by_cases c4 : a0_0 < 1
  ·
   rw [if_pos c4] at H
   have c4b0 : decide (a0_0 < 1) = true := decide_eq_true c4
   clear c4
   (first | rw [c4b0] | (simp only [i64_w, i32_w]; rw [c4b0]) | skip)
   have H' := am_ H
   clear H
   obtain ⟨z5_0, z5_1, z5_2, y5_0, y5_1, y5_2⟩ := bx3 BK327
   go_wp2
   go_meet
   case rel => exact ⟨_, (true), fr, H', ⟨by first | omega | exact Nat.le_refl _⟩, ⟨gB BK327⟩, ⟨bh HB⟩⟩
  rw [if_neg c4] at H
  have c4b0 : decide (a0_0 < 1) = false := decide_eq_false c4
  clear c4
  (first | rw [c4b0] | (simp only [i64_w, i32_w]; rw [c4b0]) | skip)
  by_cases c6 : a0_0 > 64
  ·
   rw [if_pos c6] at H
   have c6b0 : decide (64 < a0_0) = true := decide_eq_true c6
   clear c6
   have H' := am_ H
   clear H
   obtain ⟨z7_0, z7_1, z7_2, y7_0, y7_1, y7_2⟩ := bx3 BK327
   go_wp2
   go_meet
   case rel => exact ⟨_, (true), fr, H', ⟨by first | omega | exact Nat.le_refl _⟩, ⟨gB BK327⟩, ⟨bh HB⟩⟩
  rw [if_neg c6] at H
  have c6b0 : decide (64 < a0_0) = false := decide_eq_false c6
  clear c6
  by_cases c8 : a0_1 < 1
  ·
   rw [if_pos c8] at H
   have c8b0 : decide (a0_1 < 1) = true := decide_eq_true c8
   clear c8
   have H' := am_ H
   clear H
   obtain ⟨z9_0, z9_1, z9_2, y9_0, y9_1, y9_2⟩ := bx3 BK327
   go_wp2
   go_meet
   case rel => exact ⟨_, (true), fr, H', ⟨by first | omega | exact Nat.le_refl _⟩, ⟨gB BK327⟩, ⟨bh HB⟩⟩
  rw [if_neg c8] at H
  have c8b0 : decide (a0_1 < 1) = false := decide_eq_false c8
  clear c8
  by_cases c10 : a0_1 > 1073741824
  ·
   rw [if_pos c10] at H
   have c10b0 : decide (1073741824 < a0_1) = true := decide_eq_true c10
   clear c10
   have H' := am_ H
   clear H
   obtain ⟨z11_0, z11_1, z11_2, y11_0, y11_1, y11_2⟩ := bx3 BK327
   go_wp2
   go_meet
   case rel => exact ⟨_, (true), fr, H', ⟨by first | omega | exact Nat.le_refl _⟩, ⟨gB BK327⟩, ⟨bh HB⟩⟩
  rw [if_neg c10] at H
  have c10b0 : decide (1073741824 < a0_1) = false := decide_eq_false c10
  clear c10
  by_cases c12 : (l0_2.length : Int) < 1
  ·
   rw [if_pos c12] at H
   have c12b0 : decide ((l0_2.length : Int) < 1) = true := decide_eq_true c12
   have c12b1 : decide (l0_2.length < 1) = true := decide_eq_true (by omega)
   clear c12
   have H' := am_ H
   clear H
   obtain ⟨z13_0, z13_1, z13_2, y13_0, y13_1, y13_2⟩ := bx3 BK327
   go_wp2
   go_meet
   case rel => exact ⟨_, (true), fr, H', ⟨by first | omega | exact Nat.le_refl _⟩, ⟨gB BK327⟩, ⟨bh HB⟩⟩
  rw [if_neg c12] at H
  have c12b0 : decide ((l0_2.length : Int) < 1) = false := decide_eq_false c12
  have c12b1 : decide (l0_2.length < 1) = false := decide_eq_false (by omega)
  clear c12
  have H' := am_ H
  clear H
  obtain ⟨z14_0, z14_1, z14_2, y14_0, y14_1, y14_2⟩ := bx3 BK327
  go_wp2
  go_meet
  case rel => exact ⟨_, (decide ((l0_2.length : Int) > 4)), fr, H', ⟨by first | omega | exact Nat.le_refl _⟩, ⟨gB BK327⟩, ⟨bh HB⟩⟩
 case rest =>
  clear HC2
  obtain ⟨kq, x33_1, rfl, HA, HJ1, BK327, HB⟩ := hcut
  cases kq with
  | zero => exact absurd HA.out (by simp [F2.j0])
  | succ kj1 =>
   have H := HA.out
   clear HA
   simp only [F2.j0] at H
   by_cases c15 : x33_1 = true
   ·
    subst c15
    rw [if_pos rfl] at H
    obtain rfl := Option.some.inj H
    go_wp2
    go_ret
    exact ⟨fe, bh HB⟩
   replace c15 := Bool.eq_false_iff.mpr c15
   subst c15
   rw [if_neg (show ¬ (false = true) by decide)] at H
   have H' := am_ H
   clear H
   go_wp2
   go_loopg [3] kj1 (fun kq v3 w' => ∃ (x3_2 : Int), v3 = .int .i64 x3_2 ∧ Asc (F2.l0 kq x3_2 a0_0 a0_1 l0_2 = some r) ∧ Asc (kq ≤ kj1) ∧ Asc (w'.heap[gb327]? = some (.cells #[.int .i64 a0_0, .int .i64 a0_1, (.slice A0_2 l0_2.length c0_2)] 129 (0, 0))) ∧ Asc (Below w.heap.size w w'))
   case atStart => exact ⟨(0), fr, H', ⟨Nat.le_refl _⟩, ⟨gB BK327⟩, ⟨bh HB⟩⟩
   case round =>
    clear H'
    try clear c15
    obtain ⟨x3_2, rfl, HA, HK2, BK327, HB⟩ := hrel
    cases gk with
    | zero => exact absurd HA.out (by simp [F2.l0])
    | succ k2 =>
     have H := HA.out
     clear HA
     simp only [F2.l0] at H
     by_cases c16 : x3_2 < (l0_2.length : Int)
     ·
      rw [if_pos c16] at H
      have c16b0 : decide (x3_2 < (l0_2.length : Int)) = true := decide_eq_true c16
      clear c16
      revert H
      refine gi (fun c17b0 H => ?_)
      by_cases c18 : ((rdOf ByteArray.empty l0_2 x3_2).size : Int) < 1
      ·
       rw [if_pos c18] at H
       have c18b0 : decide (((rdOf ByteArray.empty l0_2 x3_2).size : Int) < 1) = true := decide_eq_true c18
       have c18b1 : decide ((rdOf ByteArray.empty l0_2 x3_2).size < 1) = true := decide_eq_true (by omega)
       clear c18
       obtain rfl := Option.some.inj H
       obtain ⟨z19_0, z19_1, z19_2, y19_0, y19_1, y19_2⟩ := bx3 BK327
       have p328 : 0 ≤ (x3_2 : Int) := dt
       have q328 : x3_2 < (l0_2.length : Int) := dt
       obtain ⟨ad328, e328, hx328_0⟩ := Kd.at_string HR0_2.out x3_2 p328 q328
       cases e328
       replace hx328_0 := ce HB hx328_0
       replace p328 := eq_true p328
       replace q328 := eq_true q328
       go_wp2
       go_ret
       exact ⟨fe, bh HB⟩
      rw [if_neg c18] at H
      have c18b0 : decide (((rdOf ByteArray.empty l0_2 x3_2).size : Int) < 1) = false := decide_eq_false c18
      have c18b1 : decide ((rdOf ByteArray.empty l0_2 x3_2).size < 1) = false := decide_eq_false (by omega)
      clear c18
      by_cases c20 : ((rdOf ByteArray.empty l0_2 x3_2).size : Int) > 48
      ·
       rw [if_pos c20] at H
       have c20b0 : decide (48 < ((rdOf ByteArray.empty l0_2 x3_2).size : Int)) = true := decide_eq_true c20
       have c20b1 : decide (48 < (rdOf ByteArray.empty l0_2 x3_2).size) = true := decide_eq_true (by omega)
       clear c20
       obtain rfl := Option.some.inj H
       obtain ⟨z21_0, z21_1, z21_2, y21_0, y21_1, y21_2⟩ := bx3 BK327
       have p328 : 0 ≤ (x3_2 : Int) := dt
       have q328 : x3_2 < (l0_2.length : Int) := dt
       obtain ⟨ad328, e328, hx328_0⟩ := Kd.at_string HR0_2.out x3_2 p328 q328
       cases e328
       replace hx328_0 := ce HB hx328_0
       replace p328 := eq_true p328
       replace q328 := eq_true q328
       have p329 : 0 ≤ (x3_2 : Int) := dt
       have q329 : x3_2 < (l0_2.length : Int) := dt
       obtain ⟨ad329, e329, hx329_0⟩ := Kd.at_string HR0_2.out x3_2 p329 q329
       obtain rfl : ad328 = ad329 := (by injection e329)
       replace hx329_0 := ce HB hx329_0
       replace p329 := eq_true p329
       replace q329 := eq_true q329
       go_wp2
       go_ret
       exact ⟨fe, bh HB⟩
      rw [if_neg c20] at H
      have c20b0 : decide (48 < ((rdOf ByteArray.empty l0_2 x3_2).size : Int)) = false := decide_eq_false c20
      have c20b1 : decide (48 < (rdOf ByteArray.empty l0_2 x3_2).size) = false := decide_eq_false (by omega)
      clear c20
      have H' := am_ H
      clear H
      obtain ⟨z22_0, z22_1, z22_2, y22_0, y22_1, y22_2⟩ := bx3 BK327
      have p328 : 0 ≤ (x3_2 : Int) := dt
      have q328 : x3_2 < (l0_2.length : Int) := dt
      obtain ⟨ad328, e328, hx328_0⟩ := Kd.at_string HR0_2.out x3_2 p328 q328
      cases e328
      replace hx328_0 := ce HB hx328_0
      replace p328 := eq_true p328
      replace q328 := eq_true q328
      have p329 : 0 ≤ (x3_2 : Int) := dt
      have q329 : x3_2 < (l0_2.length : Int) := dt
      obtain ⟨ad329, e329, hx329_0⟩ := Kd.at_string HR0_2.out x3_2 p329 q329
      obtain rfl : ad328 = ad329 := (by injection e329)
      replace hx329_0 := ce HB hx329_0
      replace p329 := eq_true p329
      replace q329 := eq_true q329
      go_wp2
      go_roundg k2
      case measure => have := HJ1.out; have := HK2.out; omega
      case rel => exact ⟨(wrap64 (x3_2 + 1)), fr, H', ⟨by have := HJ1.out; have := HK2.out; omega⟩, ⟨gB BK327⟩, ⟨bh HB⟩⟩
     rw [if_neg c16] at H
     have c16b0 : decide (x3_2 < (l0_2.length : Int)) = false := decide_eq_false c16
     clear c16
     obtain rfl := Option.some.inj H
     obtain ⟨z23_0, z23_1, z23_2, y23_0, y23_1, y23_2⟩ := bx3 BK327
     go_wp2
     go_ret
     exact ⟨fe, bh HB⟩

end Go.Proofs.Ytcbfnmabckjijaa.PTuskStops
